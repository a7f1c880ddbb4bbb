/- Contracts and lemmas (Ba, Bb, Pa, Bc, Bd, Be, Bf, Bg, Bh, Azs, Sm, Bi, Bj, Bk, Bm, Bl, Bn, Bo), joined out of smaller texts by a program; no conditions. -/
import Derived.Test.YtkochmppmpmddaaGreatKA2
import Derived.Test.YtkochmppmpmddaaGreatProg
import Derived.KernelRfl
import Derived.WalkKit
import Derived.Shelf.SlSortCmp.WholeK
import Derived.Shelf.SlGeneric
import Derived.Ground.SlsfProg
/-! Ba -/
namespace Go.Proofs.YtkochmppmpmddaaGreat
open Go.Abs
@[go_sem] theorem T.arA_46 : arA Tryz.prog 46 = some (3, 1) := by kernel_rfl
@[go_sem] theorem T.arA_60 : arA Tryz.prog 60 = some (4, 1) := by kernel_rfl
@[go_sem] theorem T.arA_75 : arA Tryz.prog 75 = some (2, 2) := by kernel_rfl
@[go_sem] theorem T.arV_202 : arV Tryz.prog 202 = some (12, false, 1) := by kernel_rfl
@[go_sem] theorem T.boolT_4 : boolT Tryz.prog 4 = true := by kernel_rfl
@[go_sem] theorem T.eqA_80 : eqA Tryz.prog 80 = some [.i, .s, .i, .i, .i, .i] := by kernel_rfl
@[go_sem] theorem T.eqA_85 : eqA Tryz.prog 85 = some [.i, .i, .i, .i] := by kernel_rfl
@[go_sem] theorem T.eqA_87 : eqA Tryz.prog 87 = some [.i, .i, .i, .i, .i] := by kernel_rfl
@[go_sem] theorem T.fieldA_109_0 : fieldA Tryz.prog 109 0 = some 0 := by kernel_rfl
@[go_sem] theorem T.fieldA_109_1 : fieldA Tryz.prog 109 1 = some 1 := by kernel_rfl
@[go_sem] theorem T.fieldA_109_2 : fieldA Tryz.prog 109 2 = some 2 := by kernel_rfl
@[go_sem] theorem T.fieldA_109_3 : fieldA Tryz.prog 109 3 = some 3 := by kernel_rfl
@[go_sem] theorem T.fieldA_109_4 : fieldA Tryz.prog 109 4 = some 4 := by kernel_rfl
@[go_sem] theorem T.fieldA_124_0 : fieldA Tryz.prog 124 0 = some 0 := by kernel_rfl
@[go_sem] theorem T.fieldA_124_1 : fieldA Tryz.prog 124 1 = some 1 := by kernel_rfl
@[go_sem] theorem T.fieldA_29_0 : fieldA Tryz.prog 29 0 = some 0 := by kernel_rfl
@[go_sem] theorem T.fieldA_29_1 : fieldA Tryz.prog 29 1 = some 1 := by kernel_rfl
@[go_sem] theorem T.fieldA_29_2 : fieldA Tryz.prog 29 2 = some 2 := by kernel_rfl
@[go_sem] theorem T.fieldA_29_3 : fieldA Tryz.prog 29 3 = some 3 := by kernel_rfl
@[go_sem] theorem T.fieldA_29_4 : fieldA Tryz.prog 29 4 = some 4 := by kernel_rfl
@[go_sem] theorem T.fieldA_29_5 : fieldA Tryz.prog 29 5 = some 5 := by kernel_rfl
@[go_sem] theorem T.fieldA_38_0 : fieldA Tryz.prog 38 0 = some 0 := by kernel_rfl
@[go_sem] theorem T.fieldA_38_1 : fieldA Tryz.prog 38 1 = some 1 := by kernel_rfl
@[go_sem] theorem T.fieldA_38_2 : fieldA Tryz.prog 38 2 = some 2 := by kernel_rfl
@[go_sem] theorem T.fieldA_45_0 : fieldA Tryz.prog 45 0 = some 0 := by kernel_rfl
@[go_sem] theorem T.fieldA_45_1 : fieldA Tryz.prog 45 1 = some 1 := by kernel_rfl
@[go_sem] theorem T.fieldA_49_0 : fieldA Tryz.prog 49 0 = some 0 := by kernel_rfl
@[go_sem] theorem T.fieldA_49_1 : fieldA Tryz.prog 49 1 = some 1 := by kernel_rfl
@[go_sem] theorem T.fieldA_49_2 : fieldA Tryz.prog 49 2 = some 2 := by kernel_rfl
@[go_sem] theorem T.fieldA_49_3 : fieldA Tryz.prog 49 3 = some 3 := by kernel_rfl
@[go_sem] theorem T.fieldA_49_4 : fieldA Tryz.prog 49 4 = some 4 := by kernel_rfl
@[go_sem] theorem T.fieldA_66_0 : fieldA Tryz.prog 66 0 = some 0 := by kernel_rfl
@[go_sem] theorem T.fieldA_66_1 : fieldA Tryz.prog 66 1 = some 1 := by kernel_rfl
@[go_sem] theorem T.fieldA_68_0 : fieldA Tryz.prog 68 0 = some 0 := by kernel_rfl
@[go_sem] theorem T.fieldA_68_1 : fieldA Tryz.prog 68 1 = some 1 := by kernel_rfl
@[go_sem] theorem T.fieldA_68_2 : fieldA Tryz.prog 68 2 = some 2 := by kernel_rfl
@[go_sem] theorem T.fieldA_68_3 : fieldA Tryz.prog 68 3 = some 3 := by kernel_rfl
@[go_sem] theorem T.fieldA_68_4 : fieldA Tryz.prog 68 4 = some 4 := by kernel_rfl
@[go_sem] theorem T.fieldA_71_0 : fieldA Tryz.prog 71 0 = some 0 := by kernel_rfl
@[go_sem] theorem T.fieldA_71_1 : fieldA Tryz.prog 71 1 = some 1 := by kernel_rfl
@[go_sem] theorem T.fieldA_71_2 : fieldA Tryz.prog 71 2 = some 2 := by kernel_rfl
@[go_sem] theorem T.fieldA_71_3 : fieldA Tryz.prog 71 3 = some 3 := by kernel_rfl
@[go_sem] theorem T.fieldA_71_4 : fieldA Tryz.prog 71 4 = some 4 := by kernel_rfl
@[go_sem] theorem T.fieldA_74_0 : fieldA Tryz.prog 74 0 = some 0 := by kernel_rfl
@[go_sem] theorem T.fieldA_74_1 : fieldA Tryz.prog 74 1 = some 1 := by kernel_rfl
@[go_sem] theorem T.fieldA_80_0 : fieldA Tryz.prog 80 0 = some 0 := by kernel_rfl
@[go_sem] theorem T.fieldA_80_1 : fieldA Tryz.prog 80 1 = some 1 := by kernel_rfl
@[go_sem] theorem T.fieldA_80_2 : fieldA Tryz.prog 80 2 = some 2 := by kernel_rfl
@[go_sem] theorem T.fieldA_80_3 : fieldA Tryz.prog 80 3 = some 4 := by kernel_rfl
@[go_sem] theorem T.fieldA_85_0 : fieldA Tryz.prog 85 0 = some 0 := by kernel_rfl
@[go_sem] theorem T.fieldA_85_1 : fieldA Tryz.prog 85 1 = some 1 := by kernel_rfl
@[go_sem] theorem T.fieldA_85_2 : fieldA Tryz.prog 85 2 = some 2 := by kernel_rfl
@[go_sem] theorem T.fieldA_85_3 : fieldA Tryz.prog 85 3 = some 3 := by kernel_rfl
@[go_sem] theorem T.fieldA_89_0 : fieldA Tryz.prog 89 0 = some 0 := by kernel_rfl
@[go_sem] theorem T.fieldA_89_1 : fieldA Tryz.prog 89 1 = some 1 := by kernel_rfl
@[go_sem] theorem T.fieldA_89_2 : fieldA Tryz.prog 89 2 = some 3 := by kernel_rfl
@[go_sem] theorem T.fieldA_89_3 : fieldA Tryz.prog 89 3 = some 4 := by kernel_rfl
@[go_sem] theorem T.fieldVA_49_3 : fieldVA Tryz.prog 49 3 = some (3, false, 1) := by kernel_rfl
@[go_sem] theorem T.intT_206 : intT Tryz.prog 206 = some .u64 := by kernel_rfl
@[go_sem] theorem T.intT_216 : intT Tryz.prog 216 = some .u32 := by kernel_rfl
@[go_sem] theorem T.intT_218 : intT Tryz.prog 218 = some .u64 := by kernel_rfl
@[go_sem] theorem T.intT_221 : intT Tryz.prog 221 = some .u64 := by kernel_rfl
@[go_sem] theorem T.intT_3 : intT Tryz.prog 3 = some .i64 := by kernel_rfl
@[go_sem] theorem T.intT_5 : intT Tryz.prog 5 = some .u8 := by kernel_rfl
@[go_sem] theorem T.isArr_104 : isArr Tryz.prog 104 = false := by kernel_rfl
@[go_sem] theorem T.isArr_119 : isArr Tryz.prog 119 = false := by kernel_rfl
@[go_sem] theorem T.isArr_170 : isArr Tryz.prog 170 = false := by kernel_rfl
@[go_sem] theorem T.isArr_175 : isArr Tryz.prog 175 = false := by kernel_rfl
@[go_sem] theorem T.isArr_22 : isArr Tryz.prog 22 = false := by kernel_rfl
@[go_sem] theorem T.isArr_23 : isArr Tryz.prog 23 = false := by kernel_rfl
@[go_sem] theorem T.isArr_24 : isArr Tryz.prog 24 = false := by kernel_rfl
@[go_sem] theorem T.isArr_25 : isArr Tryz.prog 25 = false := by kernel_rfl
@[go_sem] theorem T.isArr_26 : isArr Tryz.prog 26 = false := by kernel_rfl
@[go_sem] theorem T.isArr_27 : isArr Tryz.prog 27 = false := by kernel_rfl
@[go_sem] theorem T.isArr_32 : isArr Tryz.prog 32 = false := by kernel_rfl
@[go_sem] theorem T.isArr_46 : isArr Tryz.prog 46 = true := by kernel_rfl
@[go_sem] theorem T.isArr_47 : isArr Tryz.prog 47 = false := by kernel_rfl
@[go_sem] theorem T.isArr_55 : isArr Tryz.prog 55 = false := by kernel_rfl
@[go_sem] theorem T.isArr_60 : isArr Tryz.prog 60 = true := by kernel_rfl
@[go_sem] theorem T.isArr_75 : isArr Tryz.prog 75 = true := by kernel_rfl
@[go_sem] theorem T.isSlT_206 : isSlT Tryz.prog 206 = false := by kernel_rfl
@[go_sem] theorem T.isSlT_209 : isSlT Tryz.prog 209 = false := by kernel_rfl
@[go_sem] theorem T.isSlT_21 : isSlT Tryz.prog 21 = false := by kernel_rfl
@[go_sem] theorem T.isSlT_216 : isSlT Tryz.prog 216 = false := by kernel_rfl
@[go_sem] theorem T.isSlT_218 : isSlT Tryz.prog 218 = false := by kernel_rfl
@[go_sem] theorem T.isSlT_22 : isSlT Tryz.prog 22 = true := by kernel_rfl
@[go_sem] theorem T.isSlT_221 : isSlT Tryz.prog 221 = false := by kernel_rfl
@[go_sem] theorem T.isSlT_23 : isSlT Tryz.prog 23 = true := by kernel_rfl
@[go_sem] theorem T.isSlT_24 : isSlT Tryz.prog 24 = true := by kernel_rfl
@[go_sem] theorem T.isSlT_25 : isSlT Tryz.prog 25 = true := by kernel_rfl
@[go_sem] theorem T.isSlT_26 : isSlT Tryz.prog 26 = true := by kernel_rfl
@[go_sem] theorem T.isSlT_27 : isSlT Tryz.prog 27 = true := by kernel_rfl
@[go_sem] theorem T.isSlT_3 : isSlT Tryz.prog 3 = false := by kernel_rfl
@[go_sem] theorem T.isSlT_32 : isSlT Tryz.prog 32 = true := by kernel_rfl
@[go_sem] theorem T.isSlT_33 : isSlT Tryz.prog 33 = false := by kernel_rfl
@[go_sem] theorem T.isSlT_4 : isSlT Tryz.prog 4 = false := by kernel_rfl
@[go_sem] theorem T.isSlT_5 : isSlT Tryz.prog 5 = false := by kernel_rfl
@[go_sem] theorem T.isSlT_80 : isSlT Tryz.prog 80 = false := by kernel_rfl
@[go_sem] theorem T.isSlT_85 : isSlT Tryz.prog 85 = false := by kernel_rfl
@[go_sem] theorem T.isSlT_87 : isSlT Tryz.prog 87 = false := by kernel_rfl
@[go_sem] theorem T.lenT_104 : lenT Tryz.prog 104 = 1 := by kernel_rfl
@[go_sem] theorem T.lenT_119 : lenT Tryz.prog 119 = 1 := by kernel_rfl
@[go_sem] theorem T.lenT_170 : lenT Tryz.prog 170 = 1 := by kernel_rfl
@[go_sem] theorem T.lenT_175 : lenT Tryz.prog 175 = 1 := by kernel_rfl
@[go_sem] theorem T.lenT_22 : lenT Tryz.prog 22 = 1 := by kernel_rfl
@[go_sem] theorem T.lenT_23 : lenT Tryz.prog 23 = 1 := by kernel_rfl
@[go_sem] theorem T.lenT_24 : lenT Tryz.prog 24 = 1 := by kernel_rfl
@[go_sem] theorem T.lenT_25 : lenT Tryz.prog 25 = 1 := by kernel_rfl
@[go_sem] theorem T.lenT_26 : lenT Tryz.prog 26 = 1 := by kernel_rfl
@[go_sem] theorem T.lenT_27 : lenT Tryz.prog 27 = 1 := by kernel_rfl
@[go_sem] theorem T.lenT_32 : lenT Tryz.prog 32 = 1 := by kernel_rfl
@[go_sem] theorem T.lenT_47 : lenT Tryz.prog 47 = 1 := by kernel_rfl
@[go_sem] theorem T.lenT_55 : lenT Tryz.prog 55 = 1 := by kernel_rfl
@[go_sem] theorem T.lenT_9 : lenT Tryz.prog 9 = 2 := by kernel_rfl
@[go_sem] theorem T.placesA_109 : placesA Tryz.prog 109 = some ([(0, 1), (1, 1), (2, 1), (3, 1), (4, 2)], [.int .i64 0, .int .i64 0, .int .i64 0, .bool false, .int .i64 0, .int .i64 0]) := by kernel_rfl
@[go_sem] theorem T.placesA_124 : placesA Tryz.prog 124 = some ([(0, 1), (1, 1)], [.nilFunc, .nilFunc]) := by kernel_rfl
@[go_sem] theorem T.placesA_202 : placesA Tryz.prog 202 = some ([(0, 1), (1, 1), (2, 1), (3, 1), (4, 1), (5, 1), (6, 1), (7, 1), (8, 1), (9, 1), (10, 1), (11, 1)], [.int .i64 0, .int .i64 0, .int .i64 0, .int .i64 0, .int .i64 0, .int .i64 0, .int .i64 0, .int .i64 0, .int .i64 0, .int .i64 0, .int .i64 0, .int .i64 0]) := by kernel_rfl
@[go_sem] theorem T.placesA_29 : placesA Tryz.prog 29 = some ([(0, 1), (1, 1), (2, 1), (3, 1), (4, 1), (5, 1)], [.slice none 0 0, .slice none 0 0, .slice none 0 0, .int .i64 0, .slice none 0 0, .slice none 0 0]) := by kernel_rfl
@[go_sem] theorem T.placesA_38 : placesA Tryz.prog 38 = some ([(0, 1), (1, 1), (2, 1)], [.int .i64 0, .int .i64 0, .int .i64 0]) := by kernel_rfl
@[go_sem] theorem T.placesA_49 : placesA Tryz.prog 49 = some ([(0, 1), (1, 1), (2, 1), (3, 1), (4, 1)], [.int .i64 0, .int .i64 0, .int .i64 0, .bool false, .slice none 0 0]) := by kernel_rfl
@[go_sem] theorem T.placesA_66 : placesA Tryz.prog 66 = some ([(0, 1), (1, 1)], [.int .i64 0, .int .i64 0]) := by kernel_rfl
@[go_sem] theorem T.placesA_68 : placesA Tryz.prog 68 = some ([(0, 1), (1, 1), (2, 1), (3, 1), (4, 2)], [.int .i64 0, .int .i64 0, .int .i64 0, .bool false, .int .i64 0, .int .i64 0]) := by kernel_rfl
@[go_sem] theorem T.placesA_71 : placesA Tryz.prog 71 = some ([(0, 1), (1, 1), (2, 1), (3, 1), (4, 2)], [.int .i64 0, .int .i64 0, .int .i64 0, .int .i64 0, .int .i64 0, .int .i64 0]) := by kernel_rfl
@[go_sem] theorem T.placesA_74 : placesA Tryz.prog 74 = some ([(0, 1), (1, 1)], [.int .i64 0, .int .i64 0]) := by kernel_rfl
@[go_sem] theorem T.placesA_80 : placesA Tryz.prog 80 = some ([(0, 1), (1, 1), (2, 2), (4, 2)], [.int .i64 0, .string ⟨#[]⟩, .int .i64 0, .int .i64 0, .int .i64 0, .int .i64 0]) := by kernel_rfl
@[go_sem] theorem T.placesA_85 : placesA Tryz.prog 85 = some ([(0, 1), (1, 1), (2, 1), (3, 1)], [.int .i64 0, .int .i64 0, .int .i64 0, .int .i64 0]) := by kernel_rfl
@[go_sem] theorem T.placesA_87 : placesA Tryz.prog 87 = some ([(0, 4), (4, 1)], [.int .i64 0, .int .i64 0, .int .i64 0, .int .i64 0, .int .i64 0]) := by kernel_rfl
@[go_sem] theorem T.placesA_89 : placesA Tryz.prog 89 = some ([(0, 1), (1, 2), (3, 1), (4, 1)], [.int .i64 0, .int .i64 0, .int .i64 0, .int .i64 0, .slice none 0 0]) := by kernel_rfl
@[go_sem] theorem T.slA_104 : slA Tryz.prog 104 = some (33, 1) := by kernel_rfl
@[go_sem] theorem T.slA_119 : slA Tryz.prog 119 = some (124, 2) := by kernel_rfl
@[go_sem] theorem T.slA_170 : slA Tryz.prog 170 = some (66, 2) := by kernel_rfl
@[go_sem] theorem T.slA_175 : slA Tryz.prog 175 = some (68, 6) := by kernel_rfl
@[go_sem] theorem T.slA_22 : slA Tryz.prog 22 = some (38, 3) := by kernel_rfl
@[go_sem] theorem T.slA_23 : slA Tryz.prog 23 = some (89, 5) := by kernel_rfl
@[go_sem] theorem T.slA_24 : slA Tryz.prog 24 = some (109, 6) := by kernel_rfl
@[go_sem] theorem T.slA_25 : slA Tryz.prog 25 = some (80, 6) := by kernel_rfl
@[go_sem] theorem T.slA_26 : slA Tryz.prog 26 = some (68, 6) := by kernel_rfl
@[go_sem] theorem T.slA_27 : slA Tryz.prog 27 = some (71, 6) := by kernel_rfl
@[go_sem] theorem T.slA_32 : slA Tryz.prog 32 = some (3, 1) := by kernel_rfl
@[go_sem] theorem T.slA_47 : slA Tryz.prog 47 = some (87, 5) := by kernel_rfl
@[go_sem] theorem T.slA_55 : slA Tryz.prog 55 = some (85, 4) := by kernel_rfl
@[go_sem] theorem T.slB_104 : slB Tryz.prog 104 = some (33, 1, 8, [.int .i64 0]) := by kernel_rfl
@[go_sem] theorem T.slB_119 : slB Tryz.prog 119 = some (124, 2, 16, [.nilFunc, .nilFunc]) := by kernel_rfl
@[go_sem] theorem T.slB_170 : slB Tryz.prog 170 = some (66, 2, 16, [.int .i64 0, .int .i64 0]) := by kernel_rfl
@[go_sem] theorem T.slB_22 : slB Tryz.prog 22 = some (38, 3, 24, [.int .i64 0, .int .i64 0, .int .i64 0]) := by kernel_rfl
@[go_sem] theorem T.slB_23 : slB Tryz.prog 23 = some (89, 5, 56, [.int .i64 0, .int .i64 0, .int .i64 0, .int .i64 0, .slice none 0 0]) := by kernel_rfl
@[go_sem] theorem T.slB_24 : slB Tryz.prog 24 = some (109, 6, 48, [.int .i64 0, .int .i64 0, .int .i64 0, .bool false, .int .i64 0, .int .i64 0]) := by kernel_rfl
@[go_sem] theorem T.slB_25 : slB Tryz.prog 25 = some (80, 6, 56, [.int .i64 0, .string ⟨#[]⟩, .int .i64 0, .int .i64 0, .int .i64 0, .int .i64 0]) := by kernel_rfl
@[go_sem] theorem T.slB_26 : slB Tryz.prog 26 = some (68, 6, 48, [.int .i64 0, .int .i64 0, .int .i64 0, .bool false, .int .i64 0, .int .i64 0]) := by kernel_rfl
@[go_sem] theorem T.slB_27 : slB Tryz.prog 27 = some (71, 6, 48, [.int .i64 0, .int .i64 0, .int .i64 0, .int .i64 0, .int .i64 0, .int .i64 0]) := by kernel_rfl
@[go_sem] theorem T.slB_32 : slB Tryz.prog 32 = some (3, 1, 8, [.int .i64 0]) := by kernel_rfl
@[go_sem] theorem T.slB_47 : slB Tryz.prog 47 = some (87, 5, 40, [.int .i64 0, .int .i64 0, .int .i64 0, .int .i64 0, .int .i64 0]) := by kernel_rfl
@[go_sem] theorem T.slB_55 : slB Tryz.prog 55 = some (85, 4, 32, [.int .i64 0, .int .i64 0, .int .i64 0, .int .i64 0]) := by kernel_rfl
@[go_sem] theorem T.strT_206 : strT Tryz.prog 206 = false := by kernel_rfl
@[go_sem] theorem T.strT_216 : strT Tryz.prog 216 = false := by kernel_rfl
@[go_sem] theorem T.strT_218 : strT Tryz.prog 218 = false := by kernel_rfl
@[go_sem] theorem T.strT_221 : strT Tryz.prog 221 = false := by kernel_rfl
@[go_sem] theorem T.strT_3 : strT Tryz.prog 3 = false := by kernel_rfl
@[go_sem] theorem T.strT_5 : strT Tryz.prog 5 = false := by kernel_rfl
@[go_sem] theorem T.strT_9 : strT Tryz.prog 9 = true := by kernel_rfl
@[go_sem] theorem T.tyA_109 : tyA Tryz.prog 109 = some (true, 6) := by kernel_rfl
@[go_sem] theorem T.tyA_121 : tyA Tryz.prog 121 = some (false, 1) := by kernel_rfl
@[go_sem] theorem T.tyA_122 : tyA Tryz.prog 122 = some (false, 1) := by kernel_rfl
@[go_sem] theorem T.tyA_124 : tyA Tryz.prog 124 = some (true, 2) := by kernel_rfl
@[go_sem] theorem T.tyA_170 : tyA Tryz.prog 170 = some (false, 1) := by kernel_rfl
@[go_sem] theorem T.tyA_202 : tyA Tryz.prog 202 = some (true, 12) := by kernel_rfl
@[go_sem] theorem T.tyA_22 : tyA Tryz.prog 22 = some (false, 1) := by kernel_rfl
@[go_sem] theorem T.tyA_221 : tyA Tryz.prog 221 = some (false, 1) := by kernel_rfl
@[go_sem] theorem T.tyA_23 : tyA Tryz.prog 23 = some (false, 1) := by kernel_rfl
@[go_sem] theorem T.tyA_24 : tyA Tryz.prog 24 = some (false, 1) := by kernel_rfl
@[go_sem] theorem T.tyA_25 : tyA Tryz.prog 25 = some (false, 1) := by kernel_rfl
@[go_sem] theorem T.tyA_26 : tyA Tryz.prog 26 = some (false, 1) := by kernel_rfl
@[go_sem] theorem T.tyA_27 : tyA Tryz.prog 27 = some (false, 1) := by kernel_rfl
@[go_sem] theorem T.tyA_29 : tyA Tryz.prog 29 = some (true, 6) := by kernel_rfl
@[go_sem] theorem T.tyA_3 : tyA Tryz.prog 3 = some (false, 1) := by kernel_rfl
@[go_sem] theorem T.tyA_32 : tyA Tryz.prog 32 = some (false, 1) := by kernel_rfl
@[go_sem] theorem T.tyA_33 : tyA Tryz.prog 33 = some (false, 1) := by kernel_rfl
@[go_sem] theorem T.tyA_38 : tyA Tryz.prog 38 = some (true, 3) := by kernel_rfl
@[go_sem] theorem T.tyA_4 : tyA Tryz.prog 4 = some (false, 1) := by kernel_rfl
@[go_sem] theorem T.tyA_47 : tyA Tryz.prog 47 = some (false, 1) := by kernel_rfl
@[go_sem] theorem T.tyA_49 : tyA Tryz.prog 49 = some (true, 5) := by kernel_rfl
@[go_sem] theorem T.tyA_55 : tyA Tryz.prog 55 = some (false, 1) := by kernel_rfl
@[go_sem] theorem T.tyA_66 : tyA Tryz.prog 66 = some (true, 2) := by kernel_rfl
@[go_sem] theorem T.tyA_68 : tyA Tryz.prog 68 = some (true, 6) := by kernel_rfl
@[go_sem] theorem T.tyA_71 : tyA Tryz.prog 71 = some (true, 6) := by kernel_rfl
@[go_sem] theorem T.tyA_74 : tyA Tryz.prog 74 = some (true, 2) := by kernel_rfl
@[go_sem] theorem T.tyA_80 : tyA Tryz.prog 80 = some (true, 6) := by kernel_rfl
@[go_sem] theorem T.tyA_85 : tyA Tryz.prog 85 = some (true, 4) := by kernel_rfl
@[go_sem] theorem T.tyA_87 : tyA Tryz.prog 87 = some (true, 5) := by kernel_rfl
@[go_sem] theorem T.tyA_89 : tyA Tryz.prog 89 = some (true, 5) := by kernel_rfl
@[go_sem] theorem T.tyA_9 : tyA Tryz.prog 9 = some (false, 1) := by kernel_rfl
@[go_sem] theorem T.zeroA_109 : zeroA Tryz.prog 109 = some [.int .i64 0, .int .i64 0, .int .i64 0, .bool false, .int .i64 0, .int .i64 0] := by kernel_rfl
@[go_sem] theorem T.zeroA_124 : zeroA Tryz.prog 124 = some [.nilFunc, .nilFunc] := by kernel_rfl
@[go_sem] theorem T.zeroA_170 : zeroA Tryz.prog 170 = some [.slice none 0 0] := by kernel_rfl
@[go_sem] theorem T.zeroA_202 : zeroA Tryz.prog 202 = some [.int .i64 0, .int .i64 0, .int .i64 0, .int .i64 0, .int .i64 0, .int .i64 0, .int .i64 0, .int .i64 0, .int .i64 0, .int .i64 0, .int .i64 0, .int .i64 0] := by kernel_rfl
@[go_sem] theorem T.zeroA_221 : zeroA Tryz.prog 221 = some [.int .u64 0] := by kernel_rfl
@[go_sem] theorem T.zeroA_24 : zeroA Tryz.prog 24 = some [.slice none 0 0] := by kernel_rfl
@[go_sem] theorem T.zeroA_29 : zeroA Tryz.prog 29 = some [.slice none 0 0, .slice none 0 0, .slice none 0 0, .int .i64 0, .slice none 0 0, .slice none 0 0] := by kernel_rfl
@[go_sem] theorem T.zeroA_3 : zeroA Tryz.prog 3 = some [.int .i64 0] := by kernel_rfl
@[go_sem] theorem T.zeroA_32 : zeroA Tryz.prog 32 = some [.slice none 0 0] := by kernel_rfl
@[go_sem] theorem T.zeroA_33 : zeroA Tryz.prog 33 = some [.int .i64 0] := by kernel_rfl
@[go_sem] theorem T.zeroA_38 : zeroA Tryz.prog 38 = some [.int .i64 0, .int .i64 0, .int .i64 0] := by kernel_rfl
@[go_sem] theorem T.zeroA_49 : zeroA Tryz.prog 49 = some [.int .i64 0, .int .i64 0, .int .i64 0, .bool false, .slice none 0 0] := by kernel_rfl
@[go_sem] theorem T.zeroA_55 : zeroA Tryz.prog 55 = some [.slice none 0 0] := by kernel_rfl
@[go_sem] theorem T.zeroA_66 : zeroA Tryz.prog 66 = some [.int .i64 0, .int .i64 0] := by kernel_rfl
@[go_sem] theorem T.zeroA_68 : zeroA Tryz.prog 68 = some [.int .i64 0, .int .i64 0, .int .i64 0, .bool false, .int .i64 0, .int .i64 0] := by kernel_rfl
@[go_sem] theorem T.zeroA_71 : zeroA Tryz.prog 71 = some [.int .i64 0, .int .i64 0, .int .i64 0, .int .i64 0, .int .i64 0, .int .i64 0] := by kernel_rfl
@[go_sem] theorem T.zeroA_74 : zeroA Tryz.prog 74 = some [.int .i64 0, .int .i64 0] := by kernel_rfl
@[go_sem] theorem T.zeroA_80 : zeroA Tryz.prog 80 = some [.int .i64 0, .string ⟨#[]⟩, .int .i64 0, .int .i64 0, .int .i64 0, .int .i64 0] := by kernel_rfl
@[go_sem] theorem T.zeroA_85 : zeroA Tryz.prog 85 = some [.int .i64 0, .int .i64 0, .int .i64 0, .int .i64 0] := by kernel_rfl
@[go_sem] theorem T.zeroA_89 : zeroA Tryz.prog 89 = some [.int .i64 0, .int .i64 0, .int .i64 0, .int .i64 0, .slice none 0 0] := by kernel_rfl
theorem T.en3 : entersB Tryz.prog 3 = true := by kernel_rfl
theorem T.en4 : entersB Tryz.prog 4 = true := by kernel_rfl
theorem T.en5 : entersB Tryz.prog 5 = true := by kernel_rfl
theorem T.en6 : entersB Tryz.prog 6 = true := by kernel_rfl
theorem T.en7 : entersB Tryz.prog 7 = true := by kernel_rfl
theorem T.en8 : entersB Tryz.prog 8 = true := by kernel_rfl
theorem T.en9 : entersB Tryz.prog 9 = true := by kernel_rfl
theorem T.en10 : entersB Tryz.prog 10 = true := by kernel_rfl
theorem T.en11 : entersB Tryz.prog 11 = true := by kernel_rfl
theorem T.en12 : entersB Tryz.prog 12 = true := by kernel_rfl
theorem T.en13 : entersB Tryz.prog 13 = true := by kernel_rfl
theorem T.en14 : entersB Tryz.prog 14 = true := by kernel_rfl
theorem T.en15 : entersB Tryz.prog 15 = true := by kernel_rfl
theorem T.en16 : entersB Tryz.prog 16 = true := by kernel_rfl
theorem T.en17 : entersB Tryz.prog 17 = true := by kernel_rfl
theorem T.en18 : entersB Tryz.prog 18 = true := by kernel_rfl
theorem T.en19 : entersB Tryz.prog 19 = true := by kernel_rfl
theorem T.en20 : entersB Tryz.prog 20 = true := by kernel_rfl
theorem T.en21 : entersB Tryz.prog 21 = true := by kernel_rfl
theorem T.en22 : entersB Tryz.prog 22 = true := by kernel_rfl
theorem T.en23 : entersB Tryz.prog 23 = true := by kernel_rfl
theorem T.en24 : entersB Tryz.prog 24 = true := by kernel_rfl
theorem T.en25 : entersB Tryz.prog 25 = true := by kernel_rfl
theorem T.en26 : entersB Tryz.prog 26 = true := by kernel_rfl
theorem T.en27 : entersB Tryz.prog 27 = true := by kernel_rfl
theorem T.en28 : entersB Tryz.prog 28 = true := by kernel_rfl
theorem T.en29 : entersB Tryz.prog 29 = true := by kernel_rfl
theorem T.en30 : entersB Tryz.prog 30 = true := by kernel_rfl
theorem T.en31 : entersB Tryz.prog 31 = true := by kernel_rfl
theorem T.en32 : entersB Tryz.prog 32 = true := by kernel_rfl
theorem T.en33 : entersB Tryz.prog 33 = true := by kernel_rfl
theorem T.en34 : entersB Tryz.prog 34 = true := by kernel_rfl
theorem T.en35 : entersB Tryz.prog 35 = true := by kernel_rfl
theorem T.en36 : entersB Tryz.prog 36 = true := by kernel_rfl
theorem T.en37 : entersB Tryz.prog 37 = true := by kernel_rfl
theorem T.en38 : entersB Tryz.prog 38 = true := by kernel_rfl
theorem T.en39 : entersB Tryz.prog 39 = true := by kernel_rfl
theorem T.en40 : entersB Tryz.prog 40 = true := by kernel_rfl
theorem T.en41 : entersB Tryz.prog 41 = true := by kernel_rfl
theorem T.en42 : entersB Tryz.prog 42 = true := by kernel_rfl
theorem T.en43 : entersB Tryz.prog 43 = true := by kernel_rfl
theorem T.en44 : entersB Tryz.prog 44 = true := by kernel_rfl
theorem T.en45 : entersB Tryz.prog 45 = true := by kernel_rfl
theorem T.en46 : entersB Tryz.prog 46 = true := by kernel_rfl
theorem T.en47 : entersB Tryz.prog 47 = true := by kernel_rfl
theorem T.en48 : entersB Tryz.prog 48 = true := by kernel_rfl
theorem T.en49 : entersB Tryz.prog 49 = true := by kernel_rfl
theorem T.en50 : entersB Tryz.prog 50 = true := by kernel_rfl
theorem T.en51 : entersB Tryz.prog 51 = true := by kernel_rfl
theorem T.en52 : entersB Tryz.prog 52 = true := by kernel_rfl
theorem T.en53 : entersB Tryz.prog 53 = true := by kernel_rfl
theorem T.en54 : entersB Tryz.prog 54 = true := by kernel_rfl
theorem T.en55 : entersB Tryz.prog 55 = true := by kernel_rfl
theorem T.en56 : entersB Tryz.prog 56 = true := by kernel_rfl
theorem T.en57 : entersB Tryz.prog 57 = true := by kernel_rfl
theorem T.en58 : entersB Tryz.prog 58 = true := by kernel_rfl
theorem T.en59 : entersB Tryz.prog 59 = true := by kernel_rfl
theorem T.en60 : entersB Tryz.prog 60 = true := by kernel_rfl
theorem T.en61 : entersB Tryz.prog 61 = true := by kernel_rfl
theorem T.en62 : entersB Tryz.prog 62 = true := by kernel_rfl
theorem T.en63 : entersB Tryz.prog 63 = true := by kernel_rfl
theorem T.en64 : entersB Tryz.prog 64 = true := by kernel_rfl
theorem T.en65 : entersB Tryz.prog 65 = true := by kernel_rfl
theorem T.en66 : entersB Tryz.prog 66 = true := by kernel_rfl
theorem T.en67 : entersB Tryz.prog 67 = true := by kernel_rfl
theorem T.en68 : entersB Tryz.prog 68 = true := by kernel_rfl
theorem T.en69 : entersB Tryz.prog 69 = true := by kernel_rfl
theorem T.en70 : entersB Tryz.prog 70 = true := by kernel_rfl
theorem T.en71 : entersB Tryz.prog 71 = true := by kernel_rfl
theorem T.en72 : entersB Tryz.prog 72 = true := by kernel_rfl
theorem T.en73 : entersB Tryz.prog 73 = true := by kernel_rfl
theorem T.en74 : entersB Tryz.prog 74 = true := by kernel_rfl
theorem T.en75 : entersB Tryz.prog 75 = true := by kernel_rfl
theorem T.en76 : entersB Tryz.prog 76 = true := by kernel_rfl
theorem T.en77 : entersB Tryz.prog 77 = true := by kernel_rfl
theorem T.en78 : entersB Tryz.prog 78 = true := by kernel_rfl
theorem T.en79 : entersB Tryz.prog 79 = true := by kernel_rfl
theorem T.en80 : entersB Tryz.prog 80 = true := by kernel_rfl
theorem T.en81 : entersB Tryz.prog 81 = true := by kernel_rfl
theorem T.en82 : entersB Tryz.prog 82 = true := by kernel_rfl
theorem T.en83 : entersB Tryz.prog 83 = true := by kernel_rfl
theorem T.en84 : entersB Tryz.prog 84 = true := by kernel_rfl
theorem T.en85 : entersB Tryz.prog 85 = true := by kernel_rfl
theorem T.en86 : entersB Tryz.prog 86 = true := by kernel_rfl
theorem T.en87 : entersB Tryz.prog 87 = true := by kernel_rfl
theorem T.en88 : entersB Tryz.prog 88 = true := by kernel_rfl
theorem T.en89 : entersB Tryz.prog 89 = true := by kernel_rfl
theorem T.en90 : entersB Tryz.prog 90 = true := by kernel_rfl
theorem T.en91 : entersB Tryz.prog 91 = true := by kernel_rfl
theorem T.en92 : entersB Tryz.prog 92 = true := by kernel_rfl
theorem T.en93 : entersB Tryz.prog 93 = true := by kernel_rfl
theorem T.en94 : entersB Tryz.prog 94 = true := by kernel_rfl
theorem T.en95 : entersB Tryz.prog 95 = true := by kernel_rfl
theorem T.en96 : entersB Tryz.prog 96 = true := by kernel_rfl
theorem T.en97 : entersB Tryz.prog 97 = true := by kernel_rfl
theorem T.en98 : entersB Tryz.prog 98 = true := by kernel_rfl
theorem T.en99 : entersB Tryz.prog 99 = true := by kernel_rfl
theorem T.en100 : entersB Tryz.prog 100 = true := by kernel_rfl
theorem T.en101 : entersB Tryz.prog 101 = true := by kernel_rfl
theorem T.en102 : entersB Tryz.prog 102 = true := by kernel_rfl
theorem T.en103 : entersB Tryz.prog 103 = true := by kernel_rfl
theorem T.en104 : entersB Tryz.prog 104 = true := by kernel_rfl
theorem T.en105 : entersB Tryz.prog 105 = true := by kernel_rfl
theorem T.en106 : entersB Tryz.prog 106 = true := by kernel_rfl
theorem T.en107 : entersB Tryz.prog 107 = true := by kernel_rfl
theorem T.en108 : entersB Tryz.prog 108 = true := by kernel_rfl
theorem T.en109 : entersB Tryz.prog 109 = true := by kernel_rfl
theorem T.en110 : entersB Tryz.prog 110 = true := by kernel_rfl
theorem T.en111 : entersB Tryz.prog 111 = true := by kernel_rfl
theorem T.en112 : entersB Tryz.prog 112 = true := by kernel_rfl
theorem T.en113 : entersB Tryz.prog 113 = true := by kernel_rfl
theorem T.en114 : entersB Tryz.prog 114 = true := by kernel_rfl
theorem T.en115 : entersB Tryz.prog 115 = true := by kernel_rfl
theorem T.en116 : entersB Tryz.prog 116 = true := by kernel_rfl
theorem T.en117 : entersB Tryz.prog 117 = true := by kernel_rfl
theorem T.en118 : entersB Tryz.prog 118 = true := by kernel_rfl
theorem T.en119 : entersB Tryz.prog 119 = true := by kernel_rfl
theorem T.en120 : entersB Tryz.prog 120 = true := by kernel_rfl
theorem T.en121 : entersB Tryz.prog 121 = true := by kernel_rfl
theorem T.en122 : entersB Tryz.prog 122 = true := by kernel_rfl
theorem T.en123 : entersB Tryz.prog 123 = true := by kernel_rfl
theorem T.en124 : entersB Tryz.prog 124 = true := by kernel_rfl
theorem T.en125 : entersB Tryz.prog 125 = true := by kernel_rfl
theorem T.en126 : entersB Tryz.prog 126 = true := by kernel_rfl
theorem T.en127 : entersB Tryz.prog 127 = true := by kernel_rfl
theorem T.en128 : entersB Tryz.prog 128 = true := by kernel_rfl
theorem T.en129 : entersB Tryz.prog 129 = true := by kernel_rfl
theorem T.en130 : entersB Tryz.prog 130 = true := by kernel_rfl
theorem T.en131 : entersB Tryz.prog 131 = true := by kernel_rfl
theorem T.en132 : entersB Tryz.prog 132 = true := by kernel_rfl
theorem T.en133 : entersB Tryz.prog 133 = true := by kernel_rfl
theorem T.en134 : entersB Tryz.prog 134 = true := by kernel_rfl
theorem T.en135 : entersB Tryz.prog 135 = true := by kernel_rfl
theorem T.en136 : entersB Tryz.prog 136 = true := by kernel_rfl
theorem T.en137 : entersB Tryz.prog 137 = true := by kernel_rfl
theorem T.en138 : entersB Tryz.prog 138 = true := by kernel_rfl
theorem T.en139 : entersB Tryz.prog 139 = true := by kernel_rfl
theorem T.en140 : entersB Tryz.prog 140 = true := by kernel_rfl
theorem T.en141 : entersB Tryz.prog 141 = true := by kernel_rfl
theorem T.en142 : entersB Tryz.prog 142 = true := by kernel_rfl
theorem T.en143 : entersB Tryz.prog 143 = true := by kernel_rfl
theorem T.en144 : entersB Tryz.prog 144 = true := by kernel_rfl
theorem T.en145 : entersB Tryz.prog 145 = true := by kernel_rfl
theorem T.en146 : entersB Tryz.prog 146 = true := by kernel_rfl
theorem T.en147 : entersB Tryz.prog 147 = true := by kernel_rfl
theorem T.en148 : entersB Tryz.prog 148 = true := by kernel_rfl
theorem T.en149 : entersB Tryz.prog 149 = true := by kernel_rfl
theorem T.en150 : entersB Tryz.prog 150 = true := by kernel_rfl
theorem T.en151 : entersB Tryz.prog 151 = true := by kernel_rfl
theorem T.en152 : entersB Tryz.prog 152 = true := by kernel_rfl
theorem T.en153 : entersB Tryz.prog 153 = true := by kernel_rfl
theorem T.en154 : entersB Tryz.prog 154 = true := by kernel_rfl
theorem T.en155 : entersB Tryz.prog 155 = true := by kernel_rfl
theorem T.en156 : entersB Tryz.prog 156 = true := by kernel_rfl
theorem T.en157 : entersB Tryz.prog 157 = true := by kernel_rfl
theorem T.en158 : entersB Tryz.prog 158 = true := by kernel_rfl
theorem T.en159 : entersB Tryz.prog 159 = true := by kernel_rfl
theorem T.en160 : entersB Tryz.prog 160 = true := by kernel_rfl
theorem T.en161 : entersB Tryz.prog 161 = true := by kernel_rfl
theorem T.en162 : entersB Tryz.prog 162 = true := by kernel_rfl
theorem T.en163 : entersB Tryz.prog 163 = true := by kernel_rfl
theorem T.en164 : entersB Tryz.prog 164 = true := by kernel_rfl
theorem T.en165 : entersB Tryz.prog 165 = true := by kernel_rfl
theorem T.en166 : entersB Tryz.prog 166 = true := by kernel_rfl
theorem T.en167 : entersB Tryz.prog 167 = true := by kernel_rfl
theorem T.en168 : entersB Tryz.prog 168 = true := by kernel_rfl
theorem T.en169 : entersB Tryz.prog 169 = true := by kernel_rfl
theorem T.en170 : entersB Tryz.prog 170 = true := by kernel_rfl
theorem T.en171 : entersB Tryz.prog 171 = true := by kernel_rfl
theorem T.en172 : entersB Tryz.prog 172 = true := by kernel_rfl
theorem T.en173 : entersB Tryz.prog 173 = true := by kernel_rfl
theorem T.en174 : entersB Tryz.prog 174 = true := by kernel_rfl
theorem T.en175 : entersB Tryz.prog 175 = true := by kernel_rfl
theorem T.en177 : entersB Tryz.prog 177 = true := by kernel_rfl
theorem T.en178 : entersB Tryz.prog 178 = true := by kernel_rfl
theorem T.en179 : entersB Tryz.prog 179 = true := by kernel_rfl
theorem T.en180 : entersB Tryz.prog 180 = true := by kernel_rfl
theorem T.en181 : entersB Tryz.prog 181 = true := by kernel_rfl
theorem T.en182 : entersB Tryz.prog 182 = true := by kernel_rfl
theorem T.en183 : entersB Tryz.prog 183 = true := by kernel_rfl
theorem T.en184 : entersB Tryz.prog 184 = true := by kernel_rfl
theorem T.en185 : entersB Tryz.prog 185 = true := by kernel_rfl
theorem T.en190 : entersB Tryz.prog 190 = true := by kernel_rfl
theorem T.en191 : entersB Tryz.prog 191 = true := by kernel_rfl
theorem T.en192 : entersB Tryz.prog 192 = true := by kernel_rfl
theorem T.en193 : entersB Tryz.prog 193 = true := by kernel_rfl
theorem T.en194 : entersB Tryz.prog 194 = true := by kernel_rfl
theorem T.en195 : entersB Tryz.prog 195 = true := by kernel_rfl
theorem T.en196 : entersB Tryz.prog 196 = true := by kernel_rfl
theorem T.en197 : entersB Tryz.prog 197 = true := by kernel_rfl
theorem T.en198 : entersB Tryz.prog 198 = true := by kernel_rfl
theorem T.en199 : entersB Tryz.prog 199 = true := by kernel_rfl
theorem T.en202 : entersB Tryz.prog 202 = true := by kernel_rfl
theorem T.en203 : entersB Tryz.prog 203 = true := by kernel_rfl
theorem T.en204 : entersB Tryz.prog 204 = true := by kernel_rfl
theorem T.en205 : entersB Tryz.prog 205 = true := by kernel_rfl
theorem T.en206 : entersB Tryz.prog 206 = true := by kernel_rfl
theorem T.en207 : entersB Tryz.prog 207 = true := by kernel_rfl
theorem T.mixed : Tryz.prog.follows .mixedOrders = true := by kernel_rfl
end Go.Proofs.YtkochmppmpmddaaGreat

/-! Bb -/
namespace Go.Proofs.YtkochmppmpmddaaGreat
open Go.Abs
set_option linter.unusedVariables false
set_option linter.unusedSimpArgs false
set_option maxRecDepth 100000
set_option maxHeartbeats 400000

structure Span where
  From : Int
  Until : Int
structure Rule where
  ID : Int
  Class : Int
  Years : Int
  YearEnd : Bool
  In : Span
instance : Inhabited Rule := ⟨⟨0, 0, 0, false, ⟨0, 0⟩⟩⟩
def Span.enc (s : Span) : List D := [I s.From, I s.Until]
def Rule.enc (r : Rule) : List D := [I r.ID, I r.Class, I r.Years, B r.YearEnd, I r.In.From, I r.In.Until]
attribute [go_sem] Span.enc Rule.enc


def spanOk (s : Span) : Bool := decide (0 ≤ s.From) && decide (s.From < s.Until) && decide (s.Until ≤ 1048576)
theorem closure_span_cs (σ : List Blk) (s : Span) : CSF Tryz.prog 116 [.agg (s.enc.map .d)] σ (.d (B (spanOk s))) := by
  refine CSF.of_body T.en116 Tryz.func116 rfl (by simp [Tryz.ntmps116]) (by simp [go_sem]) fun hwf => ?_
  refine awp_reg_seq fun K hK => ?_
  simp [go_sem, Tryz.ntmps116]
  repeat refine ⟨by omega, ?_⟩
  refine hK _ ?_; clear hK K
  refine awp_reg_seq fun K hK => ?_
  simp [go_sem]
  repeat refine ⟨by omega, ?_⟩
  refine hK _ ?_; clear hK K
  refine awp_ret ?_
  simp [go_sem, Tryz.results116, spanOk] <;> omega

def formed (r : Rule) : Bool := decide (1 ≤ r.ID) && decide (r.ID ≤ 1073741824) && decide (1 ≤ r.Class) && decide (r.Class ≤ 999) && decide (0 ≤ r.Years) && decide (r.Years ≤ 200) && spanOk r.In
theorem closure_formed_cs (σ : List Blk) (r : Rule) : CSF Tryz.prog 78 [.agg (r.enc.map .d)] σ (.d (B (formed r))) := by
  refine CSF.of_body T.en78 Tryz.func78 rfl (by simp [Tryz.ntmps78]) (by simp [go_sem]) fun hwf => ?_
  refine awp_reg_seq fun K hK => ?_
  simp [go_sem, Tryz.ntmps78]
  repeat refine ⟨by omega, ?_⟩
  refine hK _ ?_; clear hK K
  refine awp_reg_seq fun K hK => ?_
  simp [go_sem]
  repeat refine ⟨by omega, ?_⟩
  refine CSm.mk (closure_span_cs _ r.In) ?_
  simp [go_sem]
  repeat refine ⟨by omega, ?_⟩
  refine hK _ ?_; clear hK K
  refine awp_ret ?_
  simp [go_sem, Tryz.results78, formed] <;> omega

theorem indexRule_cs (σ : List Blk) (c : Option Nat) (n : Nat) (g : Nat → Rule) (f : FuncId) (cap : List AV) (p : Rule → Bool) (hn : n < 1000000000) (hf : ∀ i, i < n → CSF Tryz.prog f (.agg ((g i).enc.map .d) :: cap) σ (.d (B (p (g i))))) : CSF Tryz.prog 117 [.d (SL c 6 Rule.enc n g), .clo (.func f) [] cap] σ (.d (I (idxFrom p (lst n g) 0))) := by
  refine CSF.of_body T.en117 Tryz.func117 rfl (by simp [Tryz.ntmps117]) (by simp [go_sem]) fun hwf => ?_
  refine awp_reg_seq fun K hK => ?_
  simp [go_sem, Tryz.ntmps117]
  repeat refine ⟨by omega, ?_⟩
  refine hK _ ?_; clear hK K
  refine awp_seq ?_
  refine awp_reg_seq fun K hK => ?_
  simp [go_sem]
  repeat refine ⟨by omega, ?_⟩
  refine hK _ ?_; clear hK K
  refine awp_block ?_
  refine awp_forget [0, 1, 7, 8] (by simp [go_sem, restr]; rfl) ?_
  refine awp_loopU (α := Nat) (fun i => [(8, .d (I i))]) (fun i => _) (fun i => i ≤ n ∧ idxFrom p (lst n g) 0 = idxFrom p ((lst n g).drop i) i) (fun i => n - i) 0 (by simp [go_sem]) rfl (by simp) ?_
  rintro i ⟨hi, hx⟩
  refine awp_reg_seq fun K hK => ?_
  simp [go_sem]
  repeat refine ⟨by omega, ?_⟩
  refine hK _ ?_; clear hK K
  refine awp_seq ?_
  refine awp_cond rfl (fun c0 => ?_) (fun c0 => ?_)
  · have d0 := c0; try simp at d0
    rw [drop_lst d0, idxFrom] at hx
    refine awp_skip ?_
    refine awp_seq ?_
    refine awp_block ?_
    refine awp_reg_seq fun K hK => ?_
    simp [go_sem, c0, d0]
    repeat refine ⟨by omega, ?_⟩
    refine hK _ ?_; clear hK K
    refine awp_reg_seq fun K hK => ?_
    simp [go_sem, c0, d0]
    repeat refine ⟨by omega, ?_⟩
    refine CSk.mk (hf i d0) ?_
    simp [go_sem, c0, d0]
    repeat refine ⟨by omega, ?_⟩
    refine hK _ ?_; clear hK K
    refine awp_cond rfl (fun c1 => ?_) (fun c1 => ?_)
    · have d1 := c1; try simp at d1
      refine awp_reg_seq fun K hK => ?_
      simp [go_sem, c0, d0, c1, d1]
      repeat refine ⟨by omega, ?_⟩
      refine hK _ ?_; clear hK K
      refine awp_ret ?_
      simp [go_sem, Tryz.results117, hx, c0, d0, c1, d1] <;> omega
    · have d1 := c1; try simp at d1
      refine awp_skip ?_
      refine awp_reg_end fun K hK => ?_
      simp [go_sem, c0, d0, c1, d1]
      try simp (disch := omega) only [wrapI]
      repeat refine ⟨by omega, ?_⟩
      refine hK _ ?_; clear hK K
      refine ⟨i + 1, back_of' (by simp) (.refl _) (by simp [go_sem, wrap_succ (i := i) (by omega), c0, d0, c1, d1]), ⟨by omega, by rw [hx, c1]; simp⟩, by omega⟩
  · have d0 := c0; try simp at d0
    rw [drop_all d0, idxFrom] at hx
    refine awp_exit ?_
    refine awp_reg_seq fun K hK => ?_
    simp [go_sem, c0, d0]
    repeat refine ⟨by omega, ?_⟩
    refine hK _ ?_; clear hK K
    refine awp_ret ?_
    simp [go_sem, Tryz.results117, hx, c0, d0] <;> omega

theorem containsRule_cs (σ : List Blk) (c : Option Nat) (n : Nat) (g : Nat → Rule) (f : FuncId) (cap : List AV) (p : Rule → Bool) (hn : n < 1000000000) (hf : ∀ i, i < n → CSF Tryz.prog f (.agg ((g i).enc.map .d) :: cap) σ (.d (B (p (g i))))) : CSF Tryz.prog 79 [.d (SL c 6 Rule.enc n g), .clo (.func f) [] cap] σ (.d (B ((lst n g).any p))) := by
  refine CSF.of_body T.en79 Tryz.func79 rfl (by simp [Tryz.ntmps79]) (by simp [go_sem]) fun hwf => ?_
  refine awp_reg_seq fun K hK => ?_
  simp [go_sem, Tryz.ntmps79]
  repeat refine ⟨by omega, ?_⟩
  refine hK _ ?_; clear hK K
  refine awp_reg_seq fun K hK => ?_
  simp [go_sem]
  repeat refine ⟨by omega, ?_⟩
  refine CSk.mk (indexRule_cs _ c n g f cap p hn hf) ?_
  simp [go_sem]
  repeat refine ⟨by omega, ?_⟩
  refine hK _ ?_; clear hK K
  refine awp_ret ?_
  simp [go_sem, Tryz.results79, idx_any] <;> omega

def clash (r o : Rule) : Bool := (o.Class == r.Class) && decide (o.In.From < r.In.Until) && decide (r.In.From < o.In.Until)
theorem closure_Check_1_cs (σ : List Blk) (τ : List Blk) (r o : Rule) : CSF Tryz.prog 80 [.agg (o.enc.map .d), .ptr τ.length 0] (τ ++ .var (r.enc.map .d) :: σ) (.d (B (clash r o))) := by
  refine CSF.of_body T.en80 Tryz.func80 rfl (by simp [Tryz.ntmps80]) (by simp [go_sem]) fun hwf => ?_
  refine awp_reg_seq fun K hK => ?_
  simp [go_sem, Tryz.ntmps80]
  repeat refine ⟨by omega, ?_⟩
  refine hK _ ?_; clear hK K
  refine awp_reg_seq fun K hK => ?_
  simp [go_sem]
  repeat refine ⟨by omega, ?_⟩
  refine hK _ ?_; clear hK K
  refine awp_ret ?_
  simp [go_sem, Tryz.results80, clash] <;> omega

def chkF (g : Nat → Rule) (i : Nat) : Nat → Int
  | 0 => 0
  | k + 1 => if formed (g i) = false then 2 else if (decide (0 < i) && decide ((g i).ID ≤ (g (i - 1)).ID)) = true then 5 else if (lst i g).any (clash (g i)) = true then 6 else chkF g (i + 1) k
def check (n : Nat) (g : Nat → Rule) : Int := if 64 < n then 8 else chkF g 0 n
theorem closure_Check_cs (σ : List Blk) (c : Option Nat) (n : Nat) (g : Nat → Rule) (hn : n < 1000000000) : CSF Tryz.prog 47 [.d (SL c 6 Rule.enc n g)] σ (.d (I (check n g))) := by
  refine CSF.of_body T.en47 Tryz.func47 rfl (by simp [Tryz.ntmps47]) (by simp [go_sem]) fun hwf => ?_
  refine awp_reg_seq fun K hK => ?_
  simp [go_sem, Tryz.ntmps47]
  repeat refine ⟨by omega, ?_⟩
  refine hK _ ?_; clear hK K
  refine awp_seq ?_
  refine awp_reg_seq fun K hK => ?_
  simp [go_sem]
  repeat refine ⟨by omega, ?_⟩
  refine hK _ ?_; clear hK K
  refine awp_cond rfl (fun c0 => ?_) (fun c0 => ?_)
  · have d0 := c0; try simp at d0
    refine awp_reg_seq fun K hK => ?_
    simp [go_sem, c0, d0]
    repeat refine ⟨by omega, ?_⟩
    refine hK _ ?_; clear hK K
    refine awp_ret ?_
    simp [go_sem, Tryz.results47, check, c0, d0] <;> omega
  · have d0 := c0; try simp at d0
    refine awp_skip ?_
    refine awp_seq ?_
    refine awp_reg_seq fun K hK => ?_
    simp [go_sem, c0, d0]
    repeat refine ⟨by omega, ?_⟩
    refine hK _ ?_; clear hK K
    refine awp_block ?_
    refine awp_forget [0, 8, 9, 10] (by simp [go_sem, restr]; rfl) ?_
    refine awp_loopU (α := Nat) (fun i => [(10, .d (I i))]) (fun i => _) (fun i => i ≤ n ∧ chkF g 0 n = chkF g i (n - i)) (fun i => n - i) 0 (by simp [go_sem]) rfl (by simp) ?_
    rintro i ⟨hi, hx⟩
    refine awp_reg_seq fun K hK => ?_
    simp [go_sem, c0, d0, hi, wrap_pred (i := i) (by omega)]
    repeat refine ⟨by omega, ?_⟩
    refine hK _ ?_; clear hK K
    refine awp_seq ?_
    refine awp_cond rfl (fun c1 => ?_) (fun c1 => ?_)
    · have d1 := c1; try simp at d1
      obtain ⟨k, hk⟩ : ∃ k, n - i = k + 1 := ⟨n - i - 1, by omega⟩
      have hk' : n - (i + 1) = k := by omega
      rw [hk, chkF] at hx
      refine awp_skip ?_
      refine awp_seq ?_
      refine awp_block ?_
      refine awp_reg_seq fun K hK => ?_
      simp [go_sem, c0, d0, hi, wrap_pred (i := i) (by omega), c1, d1]
      repeat refine ⟨by omega, ?_⟩
      refine hK _ ?_; clear hK K
      refine awp_block ?_
      refine awp_reg_seq fun K hK => ?_
      simp [go_sem, c0, d0, hi, wrap_pred (i := i) (by omega), c1, d1]
      repeat refine ⟨by omega, ?_⟩
      refine CSk.mk (closure_formed_cs _ _) ?_
      simp [go_sem, c0, d0, hi, wrap_pred (i := i) (by omega), c1, d1]
      repeat refine ⟨by omega, ?_⟩
      refine hK _ ?_; clear hK K
      refine awp_cond rfl (fun c2 => ?_) (fun c2 => ?_)
      · have d2 := c2; try simp at d2
        refine awp_reg_seq fun K hK => ?_
        simp [go_sem, c0, d0, hi, wrap_pred (i := i) (by omega), c1, d1, c2, d2]
        repeat refine ⟨by omega, ?_⟩
        refine hK _ ?_; clear hK K
        refine awp_ret ?_
        simp [go_sem, Tryz.results47, check, hx, c0, d0, hi, wrap_pred (i := i) (by omega), c1, d1, c2, d2] <;> omega
      · have d2 := c2; try simp at d2
        refine awp_draw_seq 14 T.mixed (by kernel_rfl) fun K hK => ?_
        simp [go_sem, c0, d0, hi, wrap_pred (i := i) (by omega), c1, d1, c2, d2]
        try simp (disch := omega) only [wrapI]
        repeat refine ⟨by omega, ?_⟩
        refine hK _ ?_; clear hK K
        refine awp_cond rfl (fun c3 => ?_) (fun c3 => ?_)
        · have d3 := c3; try simp at d3
          refine awp_reg_seq fun K hK => ?_
          simp [go_sem, c0, d0, hi, wrap_pred (i := i) (by omega), c1, d1, c2, d2, c3, d3]
          repeat refine ⟨by omega, ?_⟩
          refine hK _ ?_; clear hK K
          refine awp_ret ?_
          simp [go_sem, Tryz.results47, check, hx, c0, d0, hi, wrap_pred (i := i) (by omega), c1, d1, c2, d2, c3, d3] <;> omega
        · have d3 := c3; try simp at d3
          refine awp_reg_seq fun K hK => ?_
          simp [go_sem, c0, d0, hi, wrap_pred (i := i) (by omega), c1, d1, c2, d2, c3, d3]
          repeat refine ⟨by omega, ?_⟩
          refine CSk.mk (containsRule_cs _ _ i g _ _ (clash (g i)) (by omega) (fun q hq => closure_Check_1_cs [] σ (g i) (g q))) ?_
          simp [go_sem, c0, d0, hi, wrap_pred (i := i) (by omega), c1, d1, c2, d2, c3, d3]
          repeat refine ⟨by omega, ?_⟩
          refine hK _ ?_; clear hK K
          refine awp_cond rfl (fun c4 => ?_) (fun c4 => ?_)
          · have d4 := c4; try simp at d4
            refine awp_reg_seq fun K hK => ?_
            simp [go_sem, c0, d0, hi, wrap_pred (i := i) (by omega), c1, d1, c2, d2, c3, d3, c4, d4]
            repeat refine ⟨by omega, ?_⟩
            refine hK _ ?_; clear hK K
            refine awp_ret ?_
            simp [go_sem, Tryz.results47, check, hx, c0, d0, hi, wrap_pred (i := i) (by omega), c1, d1, c2, d2, c3, d3, c4, d4] <;> omega
          · have d4 := c4; try simp at d4
            refine awp_skip ?_
            refine awp_reg_end fun K hK => ?_
            simp [go_sem, c0, d0, hi, wrap_pred (i := i) (by omega), c1, d1, c2, d2, c3, d3, c4, d4]
            try simp (disch := omega) only [wrapI]
            repeat refine ⟨by omega, ?_⟩
            refine hK _ ?_; clear hK K
            refine ⟨i + 1, back_of' (by simp) (.refl _) (by simp [go_sem, wrap_succ (i := i) (by omega), c0, d0, hi, wrap_pred (i := i) (by omega), c1, d1, c2, d2, c3, d3, c4, d4]), ⟨by omega, by rw [hx, hk']; simp [d2, c3, c4]⟩, by omega⟩
    · have d1 := c1; try simp at d1
      obtain rfl : i = n := by omega
      rw [Nat.sub_self, chkF] at hx
      refine awp_exit ?_
      refine awp_reg_seq fun K hK => ?_
      simp [go_sem, c0, d0, hi, wrap_pred (i := i) (by omega), c1, d1]
      repeat refine ⟨by omega, ?_⟩
      refine hK _ ?_; clear hK K
      refine awp_ret ?_
      simp [go_sem, Tryz.results47, check, hx, c0, d0, hi, wrap_pred (i := i) (by omega), c1, d1] <;> omega

end Go.Proofs.YtkochmppmpmddaaGreat

/-! Pa -/
namespace Go.Arch
set_option linter.unusedVariables false
set_option linter.unusedSimpArgs false

def leapY (y : Int) : Bool := (y % 4 == 0) && ((y % 100 != 0) || (y % 400 == 0))
def lenM (y m : Int) : Int := if m = 2 then (if leapY y = true then 29 else 28) else if m = 4 ∨ m = 6 ∨ m = 9 ∨ m = 11 then 30 else 31
def lenF (y m : Int) : Int := if y < 1600 ∨ 4470 < y ∨ m < 1 ∨ 12 < m then 0 else lenM y m
/-- days ahead of a year -/
def beg (y : Int) : Int := 365 * (y - 1600) + (y - 1600 + 3) / 4 - (y - 1600 + 99) / 100 + (y - 1600 + 399) / 400
/-- days of a year ahead of a month -/
def cum (y m : Int) : Int :=
  let l : Int := if leapY y = true then 1 else 0
  if m ≤ 1 then 0 else if m = 2 then 31 else if m = 3 then 59 + l else if m = 4 then 90 + l else if m = 5 then 120 + l else if m = 6 then 151 + l else if m = 7 then 181 + l
  else if m = 8 then 212 + l else if m = 9 then 243 + l else if m = 10 then 273 + l else if m = 11 then 304 + l else if m = 12 then 334 + l else 365 + l

theorem leap_or (y : Int) : leapY y = (((y % 4 == 0) && (y % 100 != 0)) || (y % 400 == 0)) := by
  unfold leapY
  by_cases h1 : y % 4 = 0
  · rw [h1]; rfl
  · have h2 : ¬ y % 400 = 0 := by omega
    rw [beq_false_of_ne h1, beq_false_of_ne h2]; rfl

theorem leap_iff (y : Int) : leapY y = true ↔ y % 4 = 0 ∧ (y % 100 ≠ 0 ∨ y % 400 = 0) := by simp [leapY]

theorem beg_succ (y : Int) : beg (y + 1) = beg y + 365 + (if leapY y = true then 1 else 0) := by
  unfold beg
  split
  · rename_i h
    rw [leap_iff] at h
    omega
  · rename_i h
    rw [leap_iff] at h
    have : ¬ y % 4 = 0 ∨ (y % 100 = 0 ∧ ¬ y % 400 = 0) := by
      by_cases h1 : y % 4 = 0
      · right; constructor
        · apply Classical.byContradiction; intro h2; exact h ⟨h1, .inl h2⟩
        · intro h2; exact h ⟨h1, .inr h2⟩
      · exact .inl h1
    omega

theorem beg_mono {a b : Int} (h : a ≤ b) : beg a ≤ beg b := by
  unfold beg; omega
theorem beg_strict {a b : Int} (h : a < b) : beg a + 365 ≤ beg b := by
  have h1 := beg_succ a
  have h2 := beg_mono (a := a + 1) (b := b) (by omega)
  split at h1 <;> omega

theorem before_eq {y : Int} (h : 1600 < y) : 365 * (y - 1600) + (y - 1600 - 1) / 4 + 1 - ((y - 1600 - 1) / 100 + 1) + (y - 1600 - 1) / 400 + 1 = beg y := by
  unfold beg; omega

theorem cum_succ {y m : Int} (h1 : 1 ≤ m) (h2 : m ≤ 12) : cum y (m + 1) = cum y m + lenM y m := by
  have : m = 1 ∨ m = 2 ∨ m = 3 ∨ m = 4 ∨ m = 5 ∨ m = 6 ∨ m = 7 ∨ m = 8 ∨ m = 9 ∨ m = 10 ∨ m = 11 ∨ m = 12 := by omega
  unfold cum lenM
  rcases this with rfl | rfl | rfl | rfl | rfl | rfl | rfl | rfl | rfl | rfl | rfl | rfl <;> by_cases hl : leapY y = true <;> simp [hl]

theorem lenM_pos (y m : Int) : 28 ≤ lenM y m := by
  unfold lenM; split
  · split <;> omega
  · split <;> omega
theorem lenM_le (y m : Int) : lenM y m ≤ 31 := by
  unfold lenM; split
  · split <;> omega
  · split <;> omega
theorem lenF_eq {y m : Int} (h1 : 1600 ≤ y) (h2 : y ≤ 4470) (h3 : 1 ≤ m) (h4 : m ≤ 12) : lenF y m = lenM y m := by
  unfold lenF; rw [if_neg (by omega)]
theorem cum_one (y : Int) : cum y 1 = 0 := by simp [cum]
theorem cum_end (y : Int) : cum y 13 = 365 + (if leapY y = true then 1 else 0) := by simp [cum]
theorem beg_cum (y : Int) : beg (y + 1) = beg y + cum y 13 := by rw [beg_succ, cum_end]; omega

/-- the year of a day: search upwards -/
def yearUp (d y : Int) : Nat → Int
  | 0 => y
  | n + 1 => if beg (y + 1) ≤ d then yearUp d (y + 1) n else y
def yearOf (d : Int) : Int := yearUp d 1600 3000

theorem yearUp_spec (d : Int) : ∀ (n : Nat) (y : Int), beg y ≤ d → d < beg (y + n + 1) → beg (yearUp d y n) ≤ d ∧ d < beg (yearUp d y n + 1)
  | 0, y, h1, h2 => ⟨h1, by simpa [yearUp] using h2⟩
  | n + 1, y, h1, h2 => by
    simp only [yearUp]
    split
    · rename_i h
      exact yearUp_spec d n (y + 1) h (by have e : y + 1 + (n : Int) + 1 = y + ((n + 1 : Nat) : Int) + 1 := by omega
                                          rw [e]; exact h2)
    · exact ⟨h1, by omega⟩

theorem beg_far : beg 4600 = 1095728 := by simp [beg]

theorem yearOf_spec {d : Int} (h1 : 0 ≤ d) (h2 : d ≤ 1048575) : beg (yearOf d) ≤ d ∧ d < beg (yearOf d + 1) := by
  have h3 : d < beg (1600 + (3000 : Nat) + 1) := by
    have := beg_mono (a := 4600) (b := 1600 + (3000 : Nat) + 1) (by decide)
    rw [beg_far] at this; omega
  exact yearUp_spec d 3000 1600 (by simpa [beg] using h1) h3

theorem year_unique {d a b : Int} (h1 : beg a ≤ d) (h2 : d < beg (a + 1)) (h3 : beg b ≤ d) (h4 : d < beg (b + 1)) : a = b := by
  rcases Int.lt_trichotomy a b with h | h | h
  · have := beg_mono (a := a + 1) (b := b) (by omega); omega
  · exact h
  · have := beg_mono (a := b + 1) (b := a) (by omega); omega

theorem yearOf_eq {d y : Int} (h1 : 0 ≤ d) (h2 : d ≤ 1048575) (h3 : beg y ≤ d) (h4 : d < beg (y + 1)) : yearOf d = y :=
  year_unique (yearOf_spec h1 h2).1 (yearOf_spec h1 h2).2 h3 h4

theorem beg_1600 : beg 1600 = 0 := by simp [beg]
theorem beg_4471 : beg 4471 = 1048612 := by simp [beg]
theorem beg_4470 : beg 4470 = 1048247 := by simp [beg]

theorem yearOf_range {d : Int} (h1 : 0 ≤ d) (h2 : d ≤ 1048575) : 1600 ≤ yearOf d ∧ yearOf d ≤ 4470 := by
  have h := yearOf_spec h1 h2
  constructor
  · apply Classical.byContradiction; intro hn
    have := beg_mono (a := yearOf d + 1) (b := 1600) (by omega)
    rw [beg_1600] at this; omega
  · apply Classical.byContradiction; intro hn
    have := beg_mono (a := 4471) (b := yearOf d) (by omega)
    rw [beg_4471] at this; omega

/-- the month of a day of a year -/
def monUp (y r m : Int) : Nat → Int
  | 0 => m
  | n + 1 => if cum y (m + 1) ≤ r then monUp y r (m + 1) n else m
def monOf (y r : Int) : Int := monUp y r 1 12

theorem monUp_spec (y r : Int) : ∀ (n : Nat) (m : Int), 1 ≤ m → m + n = 13 → cum y m ≤ r → r < cum y 13 → 1 ≤ monUp y r m n ∧ monUp y r m n ≤ 12 ∧ cum y (monUp y r m n) ≤ r ∧ r < cum y (monUp y r m n + 1)
  | 0, m, h0, h1, h2, h3 => by
    have : m = 13 := by omega
    subst this; omega
  | n + 1, m, h0, h1, h2, h3 => by
    simp only [monUp]
    split
    · rename_i h
      exact monUp_spec y r n (m + 1) (by omega) (by omega) h h3
    · exact ⟨h0, by omega, h2, by omega⟩

theorem monOf_spec {y r : Int} (h1 : 0 ≤ r) (h2 : r < cum y 13) : 1 ≤ monOf y r ∧ monOf y r ≤ 12 ∧ cum y (monOf y r) ≤ r ∧ r < cum y (monOf y r + 1) :=
  monUp_spec y r 12 1 (by omega) (by omega) (by rw [cum_one]; exact h1) h2

theorem cum_mono {y a b : Int} (h : a ≤ b) : cum y a ≤ cum y b := by
  unfold cum
  by_cases hl : leapY y = true <;> simp only [hl, if_true, if_false, Bool.false_eq_true] <;> (repeat' split) <;> omega

theorem month_unique {y r a b : Int} (h1 : cum y a ≤ r) (h2 : r < cum y (a + 1)) (h3 : cum y b ≤ r) (h4 : r < cum y (b + 1)) : a = b := by
  rcases Int.lt_trichotomy a b with h | h | h
  · have := cum_mono (y := y) (a := a + 1) (b := b) (by omega); omega
  · exact h
  · have := cum_mono (y := y) (a := b + 1) (b := a) (by omega); omega

def monD (d : Int) : Int := monOf (yearOf d) (d - beg (yearOf d))
def dayD (d : Int) : Int := d - beg (yearOf d) - cum (yearOf d) (monD d) + 1

theorem date_spec {d : Int} (h1 : 0 ≤ d) (h2 : d ≤ 1048575) : 1 ≤ monD d ∧ monD d ≤ 12 ∧ 1 ≤ dayD d ∧ dayD d ≤ lenM (yearOf d) (monD d) ∧ d = beg (yearOf d) + cum (yearOf d) (monD d) + dayD d - 1 := by
  have hy := yearOf_spec h1 h2
  rw [beg_cum] at hy
  have hm := monOf_spec (y := yearOf d) (r := d - beg (yearOf d)) (by omega) (by omega)
  have hc := cum_succ (y := yearOf d) hm.1 hm.2.1
  unfold dayD monD
  omega

/-- the day of a date, or the last day of all -/
def ofD (y m k : Int) : Int := beg y + cum y m + k - 1

def yearsF (d n : Int) : Int :=
  let y := yearOf d + n
  if 4470 < y then 1048575 else
    let t := ofD y (monD d) (min (dayD d) (lenM y (monD d)))
    if 1048575 < t then 1048575 else t

def yearEndF (d : Int) : Int := min (beg (yearOf d + 1) - 1) 1048575

end Go.Arch

/-! Bc -/
namespace Go.Proofs.YtkochmppmpmddaaGreat
open Go.Abs Go.Arch
set_option linter.unusedVariables false
set_option linter.unusedSimpArgs false
set_option maxRecDepth 100000
set_option maxHeartbeats 400000

theorem lenF_out {y m : Int} (h : ((y < 1600 ∨ 4470 < y) ∨ m < 1) ∨ 12 < m) : lenF y m = 0 := by unfold lenF; rw [if_pos (by omega)]
theorem lenF_in {y m : Int} (h : ((1600 ≤ y ∧ y ≤ 4470) ∧ 1 ≤ m) ∧ m ≤ 12) : lenF y m = lenM y m := by unfold lenF; rw [if_neg (by omega)]
theorem lenM_arr {y m : Int} (h1 : 1 ≤ m) (h2 : m ≤ 12) (h : m = 2 → leapY y = false) : loaded false (((([31, 28, 31, 30, 31, 30, 31, 31, 30, 31, 30, 31] : List Int).map fun n => AV.d (I n)).drop ((m - 1).toNat * 1)).take 1) = .d (I (lenM y m)) := by
  have hc : m = 1 ∨ m = 2 ∨ m = 3 ∨ m = 4 ∨ m = 5 ∨ m = 6 ∨ m = 7 ∨ m = 8 ∨ m = 9 ∨ m = 10 ∨ m = 11 ∨ m = 12 := by omega
  rcases hc with rfl | rfl | rfl | rfl | rfl | rfl | rfl | rfl | rfl | rfl | rfl | rfl <;> first | rfl | (simp [h, lenM]; rfl)
theorem lenM_feb {y : Int} (h : leapY y = true) : lenM y 2 = 29 := by simp [lenM, h]


theorem day_leap_cs (σ : List Blk) (y : Int) (hy : 0 ≤ y) : CSF Tryz.prog 182 [.d (I y)] σ (.d (B (leapY y))) := by
  refine CSF.of_body T.en182 Tryz.func182 rfl (by simp [Tryz.ntmps182]) (by simp [go_sem]) fun hwf => ?_
  refine awp_reg_seq fun K hK => ?_
  simp [go_sem, Tryz.ntmps182]
  repeat refine ⟨by omega, ?_⟩
  refine hK _ ?_; clear hK K
  refine awp_reg_seq fun K hK => ?_
  simp [go_sem]
  try simp (disch := omega) only [tmodI]
  repeat refine ⟨by omega, ?_⟩
  refine hK _ ?_; clear hK K
  refine awp_ret ?_
  simp [go_sem, Tryz.results182, leapY, Int.tmod_eq_emod_of_nonneg hy] <;> omega

def isDay (d : Int) : Prop := 0 ≤ d ∧ d ≤ 1048575
instance (d : Int) : Decidable (isDay d) := inferInstanceAs (Decidable (_ ∧ _))
theorem isDay_dec (d : Int) : decide (isDay d) = (decide (0 ≤ d) && decide (d ≤ 1048575)) := by
  unfold isDay; exact Bool.decide_and ..
theorem day_is_cs (σ : List Blk) (d : Int) : CSF Tryz.prog 181 [.d (I d)] σ (.d (B (decide (isDay d)))) := by
  refine CSF.of_body T.en181 Tryz.func181 rfl (by simp [Tryz.ntmps181]) (by simp [go_sem]) fun hwf => ?_
  refine awp_reg_seq fun K hK => ?_
  simp [go_sem, Tryz.ntmps181]
  repeat refine ⟨by omega, ?_⟩
  refine hK _ ?_; clear hK K
  refine awp_reg_seq fun K hK => ?_
  simp [go_sem]
  repeat refine ⟨by omega, ?_⟩
  refine hK _ ?_; clear hK K
  refine awp_ret ?_
  simp [go_sem, Tryz.results181, isDay_dec] <;> omega

theorem day_begin_cs (σ : List Blk) (y : Int) (h1 : 1600 ≤ y) (h2 : y ≤ 4700) : CSF Tryz.prog 170 [.d (I y)] σ (.d (I (beg y))) := by
  refine CSF.of_body T.en170 Tryz.func170 rfl (by simp [Tryz.ntmps170]) (by simp [go_sem]) fun hwf => ?_
  refine awp_reg_seq fun K hK => ?_
  simp [go_sem, Tryz.ntmps170]
  repeat refine ⟨by omega, ?_⟩
  refine hK _ ?_; clear hK K
  refine awp_reg_seq fun K hK => ?_
  simp [go_sem]
  try simp (disch := omega) only [wrapI]
  repeat refine ⟨by omega, ?_⟩
  refine hK _ ?_; clear hK K
  refine awp_reg_seq fun K hK => ?_
  simp [go_sem]
  try simp (disch := omega) only [tdivI, wrapI]
  repeat refine ⟨by omega, ?_⟩
  refine hK _ ?_; clear hK K
  refine awp_ret ?_
  simp [go_sem, Tryz.results170, beg] <;> omega

theorem day_lengths_cs (σ : List Blk)  : CSF Tryz.prog 183 [] σ (.agg ([31, 28, 31, 30, 31, 30, 31, 31, 30, 31, 30, 31].map fun n => .d (I n))) := by
  refine CSF.of_body T.en183 Tryz.func183 rfl (by simp [Tryz.ntmps183]) (by simp [go_sem]) fun hwf => ?_
  refine awp_reg_seq fun K hK => ?_
  simp [go_sem, Tryz.ntmps183]
  repeat refine ⟨by omega, ?_⟩
  refine hK _ ?_; clear hK K
  refine awp_reg_seq fun K hK => ?_
  simp [go_sem]
  repeat refine ⟨by omega, ?_⟩
  refine hK _ ?_; clear hK K
  refine awp_ret ?_
  simp [go_sem, Tryz.results183] <;> omega

theorem day_Length_cs (σ : List Blk) (y m : Int) : CSF Tryz.prog 169 [.d (I y), .d (I m)] σ (.d (I (lenF y m))) := by
  refine CSF.of_body T.en169 Tryz.func169 rfl (by simp [Tryz.ntmps169]) (by simp [go_sem]) fun hwf => ?_
  refine awp_reg_seq fun K hK => ?_
  simp [go_sem, Tryz.ntmps169]
  repeat refine ⟨by omega, ?_⟩
  refine hK _ ?_; clear hK K
  refine awp_seq ?_
  refine awp_reg_seq fun K hK => ?_
  simp [go_sem]
  repeat refine ⟨by omega, ?_⟩
  refine hK _ ?_; clear hK K
  refine awp_forget [0, 1, 18] (by simp only [restr, List.contains_cons, List.contains_nil, Nat.reduceBEq, Bool.or_false, Bool.or_true, Bool.true_or, Bool.false_or, if_true, if_false, Bool.false_eq_true]; rfl) ?_
  refine awp_cond rfl (fun c0 => ?_) (fun c0 => ?_)
  · have d0 := c0; try simp at d0
    refine awp_reg_seq fun K hK => ?_
    simp [go_sem, c0, d0]
    repeat refine ⟨by omega, ?_⟩
    refine hK _ ?_; clear hK K
    refine awp_ret ?_
    rw [lenF_out d0]; simp [go_sem, Tryz.results169]
  · have d0 := c0; try simp at d0
    refine awp_skip ?_
    refine awp_seq ?_
    refine awp_reg_seq fun K hK => ?_
    simp [go_sem, c0, d0]
    repeat refine ⟨by omega, ?_⟩
    refine CSm.mk (day_leap_cs _ y (by omega)) ?_
    simp [go_sem, c0, d0]
    repeat refine ⟨by omega, ?_⟩
    refine hK _ ?_; clear hK K
    refine awp_forget [1, 24] (by simp only [restr, List.contains_cons, List.contains_nil, Nat.reduceBEq, Bool.or_false, Bool.or_true, Bool.true_or, Bool.false_or, if_true, if_false, Bool.false_eq_true]; rfl) ?_
    refine awp_cond rfl (fun c1 => ?_) (fun c1 => ?_)
    · have d1 := c1; try simp at d1
      obtain ⟨rfl, d1⟩ := d1
      refine awp_reg_seq fun K hK => ?_
      simp [go_sem, c0, d0, c1, d1]
      repeat refine ⟨by omega, ?_⟩
      refine hK _ ?_; clear hK K
      refine awp_ret ?_
      rw [lenF_in (by omega), lenM_feb d1]; simp [go_sem, Tryz.results169]
    · have d1 := c1; try simp at d1
      refine awp_skip ?_
      refine awp_reg_seq fun K hK => ?_
      simp [go_sem, c0, d0, c1, d1]
      try simp (disch := omega) only [wrapI]
      repeat refine ⟨by omega, ?_⟩
      refine CSk.mk (day_lengths_cs _ ) ?_
      simp [go_sem, c0, d0, c1, d1]
      try simp (disch := omega) only [wrapI]
      have hL := lenM_arr (y := y) (m := m) (by omega) (by omega) d1
      simp [go_sem] at hL
      simp [go_sem, hL]
      repeat refine ⟨by omega, ?_⟩
      refine hK _ ?_; clear hK K
      refine awp_ret ?_
      rw [lenF_in (by omega)]; simp [go_sem, Tryz.results169]

def ofF (y m k : Int) : Int × Int := if k < 1 ∨ lenF y m < k then (0, 2) else if 1048575 < ofD y m k then (0, 2) else (ofD y m k, 0)
theorem lenF_ne {y m k : Int} (h1 : 1 ≤ k) (h2 : k ≤ lenF y m) : (1600 ≤ y ∧ y ≤ 4470) ∧ 1 ≤ m ∧ m ≤ 12 ∧ lenF y m = lenM y m := by
  unfold lenF at h2 ⊢
  split at h2
  · omega
  · rename_i h; rw [if_neg h]; exact ⟨by omega, by omega, by omega, rfl⟩
theorem beg_bd {y : Int} (h1 : 1600 ≤ y) (h2 : y ≤ 4700) : 0 ≤ beg y ∧ beg y ≤ 2000000 := by unfold beg; omega
theorem cum_bd (y : Int) {m : Int} (h1 : 1 ≤ m) (h2 : m ≤ 13) : 0 ≤ cum y m ∧ cum y m ≤ 400 := by
  have h3 := cum_mono (y := y) h1
  have h4 := cum_mono (y := y) h2
  rw [cum_one] at h3; rw [cum_end] at h4
  split at h4 <;> omega
theorem ofF_rng {y m k : Int} (h : 1 ≤ k ∧ k ≤ lenF y m) : ofF y m k = if 1048575 < ofD y m k then (0, 2) else (ofD y m k, 0) := by unfold ofF; rw [if_neg (by omega)]
theorem day_Of_cs (σ : List Blk) (y m k : Int) : CSF Tryz.prog 168 [.d (I y), .d (I m), .d (I k)] σ (.tup [.d (I (ofF y m k).1), .d (I (ofF y m k).2)]) := by
  refine CSF.of_body T.en168 Tryz.func168 rfl (by simp [Tryz.ntmps168]) (by simp [go_sem]) fun hwf => ?_
  refine awp_reg_seq fun K hK => ?_
  simp [go_sem, Tryz.ntmps168, cum_one]
  repeat refine ⟨by omega, ?_⟩
  refine hK _ ?_; clear hK K
  refine awp_seq ?_
  refine awp_reg_seq fun K hK => ?_
  simp [go_sem, cum_one]
  repeat refine ⟨by omega, ?_⟩
  refine CSk.mk (day_Length_cs _ _ _) ?_
  simp [go_sem, cum_one]
  repeat refine ⟨by omega, ?_⟩
  refine hK _ ?_; clear hK K
  refine awp_reg_seq fun K hK => ?_
  simp [go_sem, cum_one]
  repeat refine ⟨by omega, ?_⟩
  refine hK _ ?_; clear hK K
  refine awp_forget [0, 1, 2, 20] (by simp only [restr, List.contains_cons, List.contains_nil, Nat.reduceBEq, Bool.or_false, Bool.or_true, Bool.true_or, Bool.false_or, if_true, if_false, Bool.false_eq_true]; rfl) ?_
  refine awp_cond rfl (fun c0 => ?_) (fun c0 => ?_)
  · have d0 := c0; try simp at d0
    refine awp_reg_seq fun K hK => ?_
    simp [go_sem, cum_one, c0, d0]
    repeat refine ⟨by omega, ?_⟩
    refine hK _ ?_; clear hK K
    refine awp_ret ?_
    have hz : ofF y m k = (0, 2) := by unfold ofF; rw [if_pos (by omega)]
    rw [hz]; simp [go_sem, Tryz.results168]
  · have d0 := c0; try simp at d0
    obtain ⟨hy, hm1, hm2, hl⟩ := lenF_ne d0.1 d0.2
    have hb := beg_bd hy.1 (by omega)
    have hlm := lenM_le y m
    refine awp_skip ?_
    refine awp_reg_seq fun K hK => ?_
    simp [go_sem, cum_one, c0, d0]
    try simp (disch := omega) only [wrapI]
    repeat refine ⟨by omega, ?_⟩
    refine CSk.mk (day_begin_cs _ y (by omega) (by omega)) ?_
    simp [go_sem, cum_one, c0, d0]
    try simp (disch := omega) only [wrapI]
    repeat refine ⟨by omega, ?_⟩
    refine hK _ ?_; clear hK K
    refine awp_seq ?_
    refine awp_reg_seq fun K hK => ?_
    simp [go_sem, cum_one, c0, d0]
    repeat refine ⟨by omega, ?_⟩
    refine hK _ ?_; clear hK K
    refine awp_block ?_
    refine awp_forget [0, 1, 9, 10] (by simp [go_sem, restr]; rfl) ?_
    refine awp_loopU (α := Nat) (fun q => [(9, .d (I (beg y + k - 1 + cum y (q + 1)))), (10, .d (I ((q + 1 : Nat) : Int)))]) (fun q => _) (fun q => (q : Int) + 1 ≤ m) (fun q => 12 - q) 0 (by simp [go_sem, cum_one]) rfl (by omega) ?_
    rintro q hq
    have hcb := cum_bd y (m := q + 1) (by omega) (by omega)
    refine awp_seq ?_
    refine awp_reg_seq fun K hK => ?_
    simp [go_sem, cum_one, c0, d0]
    repeat refine ⟨by omega, ?_⟩
    refine hK _ ?_; clear hK K
    refine awp_forget [0, 1, 9, 10, 28] (by simp only [restr, List.contains_cons, List.contains_nil, Nat.reduceBEq, Bool.or_false, Bool.or_true, Bool.true_or, Bool.false_or, if_true, if_false, Bool.false_eq_true]; rfl) ?_
    refine awp_cond rfl (fun c1 => ?_) (fun c1 => ?_)
    · have d1 := c1; try simp at d1
      have hlq : lenF y (q + 1) = lenM y (q + 1) := lenF_in (by omega)
      have hcs := cum_succ (y := y) (m := (q : Int) + 1) (by omega) (by omega)
      have hlb := lenM_le y (q + 1)
      have hlp := lenM_pos y (q + 1)
      refine awp_skip ?_
      refine awp_seq ?_
      refine awp_block ?_
      refine awp_reg_end fun K hK => ?_
      simp [go_sem, cum_one, c0, d0, c1, d1]
      try simp (disch := omega) only [wrapI]
      repeat refine ⟨by omega, ?_⟩
      refine CSk.mk (day_Length_cs _ _ _) ?_
      simp [go_sem, cum_one, c0, d0, c1, d1]
      try simp (disch := omega) only [wrapI]
      repeat refine ⟨by omega, ?_⟩
      refine hK _ ?_; clear hK K
      refine awp_reg_end fun K hK => ?_
      simp [go_sem, cum_one, c0, d0, c1, d1]
      try simp (disch := omega) only [wrapI]
      repeat refine ⟨by omega, ?_⟩
      refine hK _ ?_; clear hK K
      refine ⟨q + 1, back_of' (by simp) (.refl _) (by (simp [go_sem, cum_one, c0, d0, c1, d1] <;> omega)), by omega, by omega⟩
    · have d1 := c1; try simp at d1
      obtain rfl : m = q + 1 := by omega
      have ho : ofD y (q + 1) k = beg y + k - 1 + cum y (q + 1) := by unfold ofD; omega
      refine awp_exit ?_
      refine awp_seq ?_
      refine awp_reg_seq fun K hK => ?_
      simp [go_sem, cum_one, c0, d0, c1, d1]
      repeat refine ⟨by omega, ?_⟩
      refine hK _ ?_; clear hK K
      refine awp_forget [9, 37] (by simp only [restr, List.contains_cons, List.contains_nil, Nat.reduceBEq, Bool.or_false, Bool.or_true, Bool.true_or, Bool.false_or, if_true, if_false, Bool.false_eq_true]; rfl) ?_
      refine awp_cond rfl (fun c2 => ?_) (fun c2 => ?_)
      · have d2 := c2; try simp at d2
        refine awp_reg_seq fun K hK => ?_
        simp [go_sem, cum_one, c0, d0, c1, d1, c2, d2]
        repeat refine ⟨by omega, ?_⟩
        refine hK _ ?_; clear hK K
        refine awp_ret ?_
        rw [ofF_rng d0, ho, if_pos (by omega)]; simp [go_sem, Tryz.results168]
      · have d2 := c2; try simp at d2
        refine awp_skip ?_
        refine awp_reg_seq fun K hK => ?_
        simp [go_sem, cum_one, c0, d0, c1, d1, c2, d2]
        repeat refine ⟨by omega, ?_⟩
        refine hK _ ?_; clear hK K
        refine awp_ret ?_
        rw [ofF_rng d0, ho, if_neg (by omega)]; simp [go_sem, Tryz.results168]

def dateF (d : Int) : Int × Int × Int × Int := if isDay d then (yearOf d, monD d, dayD d, 0) else (0, 0, 0, 2)
theorem guess_le {d : Int} (h : isDay d) : 1600 ≤ 1600 + 400 * (d / 146097) + d % 146097 / 366 ∧ beg (1600 + 400 * (d / 146097) + d % 146097 / 366) ≤ d := by
  obtain ⟨h1, h2⟩ := h
  have hc : d % 146097 / 366 = 0 ∨ d % 146097 / 366 = 1 ∨ d % 146097 / 366 = 2 ∨ 3 ≤ d % 146097 / 366 := by omega
  unfold beg
  rcases hc with h | h | h | h <;> omega
theorem year_top {d y : Int} (h : isDay d) (hb : beg y ≤ d) : y ≤ 4470 := by
  apply Classical.byContradiction; intro hn
  have := beg_mono (a := 4471) (b := y) (by omega)
  rw [beg_4471] at this; unfold isDay at h; omega
theorem day_Date_cs (σ : List Blk) (d : Int) : CSF Tryz.prog 167 [.d (I d)] σ (.tup [.d (I (dateF d).1), .d (I (dateF d).2.1), .d (I (dateF d).2.2.1), .d (I (dateF d).2.2.2)]) := by
  refine CSF.of_body T.en167 Tryz.func167 rfl (by simp [Tryz.ntmps167]) (by simp [go_sem]) fun hwf => ?_
  refine awp_reg_seq fun K hK => ?_
  simp [go_sem, Tryz.ntmps167, cum_one]
  repeat refine ⟨by omega, ?_⟩
  refine hK _ ?_; clear hK K
  refine awp_seq ?_
  refine awp_reg_seq fun K hK => ?_
  simp [go_sem, cum_one]
  repeat refine ⟨by omega, ?_⟩
  refine CSk.mk (day_is_cs _ _) ?_
  simp [go_sem, cum_one]
  repeat refine ⟨by omega, ?_⟩
  refine hK _ ?_; clear hK K
  refine awp_forget [0, 8] (by simp only [restr, List.contains_cons, List.contains_nil, Nat.reduceBEq, Bool.or_false, Bool.or_true, Bool.true_or, Bool.false_or, if_true, if_false, Bool.false_eq_true]; rfl) ?_
  refine awp_cond rfl (fun c0 => ?_) (fun c0 => ?_)
  · have d0 := c0; try simp at d0
    refine awp_reg_seq fun K hK => ?_
    simp [go_sem, cum_one, c0, d0]
    repeat refine ⟨by omega, ?_⟩
    refine hK _ ?_; clear hK K
    refine awp_ret ?_
    have hz : dateF d = (0, 0, 0, 2) := by unfold dateF; rw [if_neg d0]
    rw [hz]; simp [go_sem, Tryz.results167]
  · have d0 := c0; try simp at d0
    have hd : isDay d := d0
    have hgu := guess_le hd
    have hgt := year_top hd hgu.2
    refine awp_skip ?_
    refine awp_reg_seq fun K hK => ?_
    simp [go_sem, cum_one, c0, d0]
    try simp (disch := omega) only [tdivI, tmodI, wrapI]
    repeat refine ⟨by omega, ?_⟩
    refine hK _ ?_; clear hK K
    refine awp_seq ?_
    refine awp_block ?_
    refine awp_forget [0, 2] (by simp [go_sem, restr]; rfl) ?_
    refine awp_loopU (α := Int) (fun y => [(2, .d (I y))]) (fun y => _) (fun y => 1600 ≤ y ∧ beg y ≤ d) (fun y => (4471 - y).toNat) (1600 + 400 * (d / 146097) + d % 146097 / 366) (by simp [go_sem, cum_one]) rfl (hgu) ?_
    rintro y ⟨hy1, hy2⟩
    have hy3 := year_top hd hy2
    refine awp_seq ?_
    refine awp_reg_seq fun K hK => ?_
    simp [go_sem, cum_one, c0, d0]
    try simp (disch := omega) only [wrapI]
    repeat refine ⟨by omega, ?_⟩
    refine CSk.mk (day_begin_cs _ (y + 1) (by omega) (by omega)) ?_
    simp [go_sem, cum_one, c0, d0]
    try simp (disch := omega) only [wrapI]
    repeat refine ⟨by omega, ?_⟩
    refine hK _ ?_; clear hK K
    refine awp_forget [0, 2, 21] (by simp only [restr, List.contains_cons, List.contains_nil, Nat.reduceBEq, Bool.or_false, Bool.or_true, Bool.true_or, Bool.false_or, if_true, if_false, Bool.false_eq_true]; rfl) ?_
    refine awp_cond rfl (fun c1 => ?_) (fun c1 => ?_)
    · have d1 := c1; try simp at d1
      have hy4 := year_top hd d1
      refine awp_skip ?_
      refine awp_block ?_
      refine awp_reg_end fun K hK => ?_
      simp [go_sem, cum_one, c0, d0, c1, d1]
      try simp (disch := omega) only [wrapI]
      repeat refine ⟨by omega, ?_⟩
      refine hK _ ?_; clear hK K
      refine ⟨y + 1, back_of' (by simp) (.refl _) (by (simp [go_sem, cum_one, c0, d0, c1, d1] <;> omega)), ⟨by omega, d1⟩, by omega⟩
    · have d1 := c1; try simp at d1
      obtain rfl : yearOf d = y := yearOf_eq hd.1 hd.2 hy2 (by omega)
      have hbb := beg_bd hy1 (by omega)
      have hdi := hd
      unfold isDay at hdi
      refine awp_exit ?_
      refine awp_reg_seq fun K hK => ?_
      simp [go_sem, cum_one, c0, d0, c1, d1]
      try simp (disch := omega) only [wrapI]
      repeat refine ⟨by omega, ?_⟩
      refine CSk.mk (day_begin_cs _ (yearOf d) (by omega) (by omega)) ?_
      simp [go_sem, cum_one, c0, d0, c1, d1]
      try simp (disch := omega) only [wrapI]
      repeat refine ⟨by omega, ?_⟩
      refine hK _ ?_; clear hK K
      refine awp_seq ?_
      refine awp_reg_seq fun K hK => ?_
      simp [go_sem, cum_one, c0, d0, c1, d1]
      repeat refine ⟨by omega, ?_⟩
      refine hK _ ?_; clear hK K
      refine awp_block ?_
      refine awp_forget [0, 2, 3] (by simp [go_sem, restr]; rfl) ?_
      refine awp_loopU (α := Int) (fun m => [(0, .d (I (d - beg (yearOf d) - cum (yearOf d) m))), (3, .d (I m))]) (fun m => _) (fun m => 1 ≤ m ∧ m ≤ 12 ∧ cum (yearOf d) m ≤ d - beg (yearOf d)) (fun m => (12 - m).toNat) 1 (by simp [go_sem, cum_one]) rfl (⟨by omega, by omega, by rw [cum_one]; omega⟩) ?_
      rintro m ⟨hm1, hm2, hm3⟩
      have hlf : lenF (yearOf d) m = lenM (yearOf d) m := lenF_in (by omega)
      have hcs := cum_succ (y := yearOf d) hm1 hm2
      have hlb := lenM_le (yearOf d) m
      have hlp := lenM_pos (yearOf d) m
      have hcb := cum_bd (yearOf d) hm1 (by omega)
      refine awp_seq ?_
      refine awp_reg_seq fun K hK => ?_
      simp [go_sem, cum_one, c0, d0, c1, d1]
      repeat refine ⟨by omega, ?_⟩
      refine CSk.mk (day_Length_cs _ _ _) ?_
      simp [go_sem, cum_one, c0, d0, c1, d1]
      repeat refine ⟨by omega, ?_⟩
      refine hK _ ?_; clear hK K
      refine awp_forget [0, 2, 3, 32] (by simp only [restr, List.contains_cons, List.contains_nil, Nat.reduceBEq, Bool.or_false, Bool.or_true, Bool.true_or, Bool.false_or, if_true, if_false, Bool.false_eq_true]; rfl) ?_
      refine awp_cond rfl (fun c2 => ?_) (fun c2 => ?_)
      · have d2 := c2; try simp at d2
        have hm4 : m ≠ 12 := by
          rintro rfl
          have := (yearOf_spec hd.1 hd.2).2
          rw [beg_cum] at this
          simp only [Int.reduceAdd] at hcs
          omega
        refine awp_skip ?_
        refine awp_seq ?_
        refine awp_block ?_
        refine awp_reg_end fun K hK => ?_
        simp [go_sem, cum_one, c0, d0, c1, d1, c2, d2]
        try simp (disch := omega) only [wrapI]
        repeat refine ⟨by omega, ?_⟩
        refine CSk.mk (day_Length_cs _ _ _) ?_
        simp [go_sem, cum_one, c0, d0, c1, d1, c2, d2]
        try simp (disch := omega) only [wrapI]
        repeat refine ⟨by omega, ?_⟩
        refine hK _ ?_; clear hK K
        refine awp_reg_end fun K hK => ?_
        simp [go_sem, cum_one, c0, d0, c1, d1, c2, d2]
        try simp (disch := omega) only [wrapI]
        repeat refine ⟨by omega, ?_⟩
        refine hK _ ?_; clear hK K
        refine ⟨m + 1, back_of' (by simp) (.refl _) (by (simp [go_sem, cum_one, c0, d0, c1, d1, c2, d2] <;> omega)), ⟨by omega, by omega, by omega⟩, by omega⟩
      · have d2 := c2; try simp at d2
        obtain rfl : monD d = m := by
          unfold monD
          have := (yearOf_spec hd.1 hd.2).2
          rw [beg_cum] at this
          have hs := monOf_spec (y := yearOf d) (r := d - beg (yearOf d)) (by omega) (by omega)
          exact month_unique hs.2.2.1 hs.2.2.2 hm3 (by omega)
        refine awp_exit ?_
        refine awp_reg_seq fun K hK => ?_
        simp [go_sem, cum_one, c0, d0, c1, d1, c2, d2]
        try simp (disch := omega) only [wrapI]
        repeat refine ⟨by omega, ?_⟩
        refine hK _ ?_; clear hK K
        refine awp_ret ?_
        have hz : dateF d = (yearOf d, monD d, dayD d, 0) := by unfold dateF; rw [if_pos hd]
        rw [hz]; simp [go_sem, Tryz.results167, dayD]

def yearsR (d n : Int) : Int × Int := if isDay d ∧ 0 ≤ n ∧ n ≤ 200 then (yearsF d n, 0) else (0, 2)
theorem dateF_no {d : Int} (h : ¬ isDay d) : dateF d = (0, 0, 0, 2) := by unfold dateF; rw [if_neg h]
theorem dateF_ok {d : Int} (h : isDay d) : dateF d = (yearOf d, monD d, dayD d, 0) := by unfold dateF; rw [if_pos h]
theorem date_err {d : Int} : (dateF d).2.2.2 = 0 ↔ isDay d := by
  by_cases h : isDay d
  · simp [dateF_ok h, h]
  · simp [dateF_no h, h]
theorem years_of {d n : Int} (h : isDay d) (h0 : 0 ≤ n) (hn : yearOf d + n ≤ 4470) : ofF (yearOf d + n) (monD d) (min (dayD d) (lenF (yearOf d + n) (monD d))) = if 1048575 < ofD (yearOf d + n) (monD d) (min (dayD d) (lenM (yearOf d + n) (monD d))) then (0, 2) else (ofD (yearOf d + n) (monD d) (min (dayD d) (lenM (yearOf d + n) (monD d))), 0) := by
  have hs := date_spec h.1 h.2
  have hr := yearOf_range h.1 h.2
  have hl : lenF (yearOf d + n) (monD d) = lenM (yearOf d + n) (monD d) := lenF_in (by omega)
  have hp := lenM_pos (yearOf d + n) (monD d)
  rw [hl, ofF_rng (by rw [hl]; omega)]
theorem day_Years_cs (σ : List Blk) (d n : Int) : CSF Tryz.prog 155 [.d (I d), .d (I n)] σ (.tup [.d (I (yearsR d n).1), .d (I (yearsR d n).2)]) := by
  refine CSF.of_body T.en155 Tryz.func155 rfl (by simp [Tryz.ntmps155]) (by simp [go_sem]) fun hwf => ?_
  refine awp_reg_seq fun K hK => ?_
  simp [go_sem, Tryz.ntmps155]
  repeat refine ⟨by omega, ?_⟩
  refine hK _ ?_; clear hK K
  refine awp_reg_seq fun K hK => ?_
  simp [go_sem]
  repeat refine ⟨by omega, ?_⟩
  refine CSk.mk (day_Date_cs _ _) ?_
  simp [go_sem]
  repeat refine ⟨by omega, ?_⟩
  refine hK _ ?_; clear hK K
  refine awp_seq ?_
  refine awp_reg_seq fun K hK => ?_
  simp [go_sem]
  repeat refine ⟨by omega, ?_⟩
  refine hK _ ?_; clear hK K
  refine awp_forget [1, 6, 7, 8, 27] (by simp only [restr, List.contains_cons, List.contains_nil, Nat.reduceBEq, Bool.or_false, Bool.or_true, Bool.true_or, Bool.false_or, if_true, if_false, Bool.false_eq_true]; rfl) ?_
  refine awp_cond rfl (fun c0 => ?_) (fun c0 => ?_)
  · have d0 := c0; try simp at d0
    have hz : yearsR d n = (0, 2) := by
      unfold yearsR
      rw [if_neg]
      rintro ⟨h1, h2, h3⟩
      rw [dateF_ok h1] at d0
      simp at d0; omega
    refine awp_reg_seq fun K hK => ?_
    simp [go_sem, c0, d0]
    repeat refine ⟨by omega, ?_⟩
    refine hK _ ?_; clear hK K
    refine awp_ret ?_
    rw [hz]; simp [go_sem, Tryz.results155]
  · have d0 := c0; try simp at d0
    have hd : isDay d := date_err.1 d0.1.1
    have hr := yearOf_range hd.1 hd.2
    have hz : yearsR d n = (yearsF d n, 0) := by unfold yearsR; rw [if_pos ⟨hd, by omega, by omega⟩]
    simp only [dateF_ok hd] at c0 d0 ⊢
    refine awp_skip ?_
    refine awp_reg_seq fun K hK => ?_
    simp [go_sem, c0, d0]
    try simp (disch := omega) only [wrapI]
    repeat refine ⟨by omega, ?_⟩
    refine hK _ ?_; clear hK K
    refine awp_seq ?_
    refine awp_reg_seq fun K hK => ?_
    simp [go_sem, c0, d0]
    repeat refine ⟨by omega, ?_⟩
    refine hK _ ?_; clear hK K
    refine awp_forget [6, 7, 8, 32] (by simp only [restr, List.contains_cons, List.contains_nil, Nat.reduceBEq, Bool.or_false, Bool.or_true, Bool.true_or, Bool.false_or, if_true, if_false, Bool.false_eq_true]; rfl) ?_
    refine awp_cond rfl (fun c1 => ?_) (fun c1 => ?_)
    · have d1 := c1; try simp at d1
      have hz2 : yearsF d n = 1048575 := by unfold yearsF; rw [if_pos (by omega)]
      refine awp_reg_seq fun K hK => ?_
      simp [go_sem, c0, d0, c1, d1]
      repeat refine ⟨by omega, ?_⟩
      refine hK _ ?_; clear hK K
      refine awp_ret ?_
      rw [hz, hz2]; simp [go_sem, Tryz.results155]
    · have d1 := c1; try simp at d1
      have ho := years_of hd (n := n) (by omega) (by omega)
      have hz2 : yearsF d n = if 1048575 < ofD (yearOf d + n) (monD d) (min (dayD d) (lenM (yearOf d + n) (monD d))) then 1048575 else ofD (yearOf d + n) (monD d) (min (dayD d) (lenM (yearOf d + n) (monD d))) := by unfold yearsF; rw [if_neg (by omega)]
      generalize ofD (yearOf d + n) (monD d) (min (dayD d) (lenM (yearOf d + n) (monD d))) = g at ho hz2
      refine awp_skip ?_
      refine awp_reg_seq fun K hK => ?_
      simp [go_sem, c0, d0, c1, d1]
      repeat refine ⟨by omega, ?_⟩
      refine CSk.mk (day_Length_cs _ _ _) ?_
      simp [go_sem, c0, d0, c1, d1]
      repeat refine ⟨by omega, ?_⟩
      refine CSk.mk (day_Of_cs _ _ _ _) ?_
      simp [go_sem, c0, d0, c1, d1]
      simp only [ho]
      repeat refine ⟨by omega, ?_⟩
      refine hK _ ?_; clear hK K
      refine awp_seq ?_
      refine awp_reg_seq fun K hK => ?_
      simp [go_sem, c0, d0, c1, d1]
      repeat refine ⟨by omega, ?_⟩
      refine hK _ ?_; clear hK K
      refine awp_forget [10, 45] (by simp only [restr, List.contains_cons, List.contains_nil, Nat.reduceBEq, Bool.or_false, Bool.or_true, Bool.true_or, Bool.false_or, if_true, if_false, Bool.false_eq_true]; rfl) ?_
      refine awp_cond rfl (fun c2 => ?_) (fun c2 => ?_)
      · have d2 := c2; try simp at d2
        have hz3 : yearsF d n = 1048575 := by rw [hz2]; split at d2 <;> simp_all
        refine awp_reg_seq fun K hK => ?_
        simp [go_sem, c0, d0, c1, d1, c2, d2]
        repeat refine ⟨by omega, ?_⟩
        refine hK _ ?_; clear hK K
        refine awp_ret ?_
        rw [hz, hz3]; simp [go_sem, Tryz.results155]
      · have d2 := c2; try simp at d2
        refine awp_skip ?_
        refine awp_reg_seq fun K hK => ?_
        simp [go_sem, c0, d0, c1, d1, c2, d2]
        repeat refine ⟨by omega, ?_⟩
        refine hK _ ?_; clear hK K
        refine awp_ret ?_
        by_cases h3 : 1048575 < g
        · simp [h3] at d2
        · rw [hz, hz2]; simp [go_sem, Tryz.results155, h3]

def yearEndR (d : Int) : Int × Int := if isDay d then (yearEndF d, 0) else (0, 2)
theorem day_YearEnd_cs (σ : List Blk) (d : Int) : CSF Tryz.prog 156 [.d (I d)] σ (.tup [.d (I (yearEndR d).1), .d (I (yearEndR d).2)]) := by
  refine CSF.of_body T.en156 Tryz.func156 rfl (by simp [Tryz.ntmps156]) (by simp [go_sem]) fun hwf => ?_
  refine awp_reg_seq fun K hK => ?_
  simp [go_sem, Tryz.ntmps156]
  repeat refine ⟨by omega, ?_⟩
  refine hK _ ?_; clear hK K
  refine awp_reg_seq fun K hK => ?_
  simp [go_sem]
  repeat refine ⟨by omega, ?_⟩
  refine CSk.mk (day_Date_cs _ _) ?_
  simp [go_sem]
  repeat refine ⟨by omega, ?_⟩
  refine hK _ ?_; clear hK K
  refine awp_seq ?_
  refine awp_reg_seq fun K hK => ?_
  simp [go_sem]
  repeat refine ⟨by omega, ?_⟩
  refine hK _ ?_; clear hK K
  refine awp_forget [4, 7, 16] (by simp only [restr, List.contains_cons, List.contains_nil, Nat.reduceBEq, Bool.or_false, Bool.or_true, Bool.true_or, Bool.false_or, if_true, if_false, Bool.false_eq_true]; rfl) ?_
  refine awp_cond rfl (fun c0 => ?_) (fun c0 => ?_)
  · have d0 := c0; try simp at d0
    have hn : ¬ isDay d := fun h => d0 (date_err.2 h)
    have hz : yearEndR d = (0, 2) := by unfold yearEndR; rw [if_neg hn]
    refine awp_reg_seq fun K hK => ?_
    simp [go_sem, c0, d0]
    repeat refine ⟨by omega, ?_⟩
    refine hK _ ?_; clear hK K
    refine awp_ret ?_
    rw [hz]; simp [go_sem, Tryz.results156, dateF_no hn]
  · have d0 := c0; try simp at d0
    have hd : isDay d := date_err.1 d0
    have hr := yearOf_range hd.1 hd.2
    have hb := beg_bd (y := yearOf d + 1) (by omega) (by omega)
    have hz : yearEndR d = (yearEndF d, 0) := by unfold yearEndR; rw [if_pos hd]
    simp only [dateF_ok hd] at c0 d0 ⊢
    refine awp_skip ?_
    refine awp_reg_seq fun K hK => ?_
    simp [go_sem, c0, d0]
    try simp (disch := omega) only [wrapI]
    repeat refine ⟨by omega, ?_⟩
    refine CSk.mk (day_begin_cs _ _ (by first | assumption | omega | simp_all) (by first | assumption | omega | simp_all)) ?_
    simp [go_sem, c0, d0]
    try simp (disch := omega) only [wrapI]
    repeat refine ⟨by omega, ?_⟩
    refine hK _ ?_; clear hK K
    refine awp_ret ?_
    rw [hz]; simp [go_sem, Tryz.results156, yearEndF]

end Go.Proofs.YtkochmppmpmddaaGreat

/-! Bd -/
namespace Go.Proofs.YtkochmppmpmddaaGreat
open Go.Abs Go.Arch
set_option linter.unusedVariables false
set_option linter.unusedSimpArgs false
set_option maxRecDepth 100000
set_option maxHeartbeats 400000

theorem guess2_le {d : Int} (h : isDay d) : 1600 ≤ 1600 + d / 366 ∧ beg (1600 + d / 366) ≤ d := by
  obtain ⟨h1, h2⟩ := h
  have hc : d / 366 = 0 ∨ d / 366 = 1 ∨ d / 366 = 2 ∨ 3 ≤ d / 366 := by omega
  unfold beg
  rcases hc with h | h | h | h <;> omega
theorem lenM_same {y y' m : Int} (h : m ≠ 2) : lenM y m = lenM y' m := by unfold lenM; rw [if_neg h, if_neg h]
theorem lenM_two {y : Int} : lenM y 2 = if leapY y = true then 29 else 28 := by unfold lenM; rw [if_pos rfl]
theorem years_feb {d n : Int} (h : isDay d) : min (dayD d) (lenM (yearOf d + n) (monD d)) = if (monD d = 2 ∧ dayD d = 29) ∧ leapY (yearOf d + n) = false then 28 else dayD d := by
  have hs := date_spec h.1 h.2
  by_cases hm : monD d = 2
  · rw [hm, lenM_two]
    rw [hm, lenM_two] at hs
    cases hl : leapY (yearOf d + n) with
    | true => rw [if_pos rfl, if_neg (by simp)]; split at hs <;> omega
    | false =>
      rw [if_neg (by simp)]
      by_cases h29 : dayD d = 29
      · rw [if_pos ⟨⟨rfl, h29⟩, rfl⟩]; omega
      · rw [if_neg (by simp [h29])]; split at hs <;> omega
  · rw [lenM_same (y' := yearOf d) hm, if_neg (by simp [hm])]; omega
theorem years_ref {d n : Int} (h : isDay d) (h0 : 0 ≤ n) (h1 : n ≤ 200) {k : Int} (hk : k = if (monD d = 2 ∧ dayD d = 29) ∧ leapY (yearOf d + n) = false then 28 else dayD d) : yearsF d n = if (ofF (yearOf d + n) (monD d) k).2 = 0 then (ofF (yearOf d + n) (monD d) k).1 else 1048575 := by
  have hs := date_spec h.1 h.2
  have hr := yearOf_range h.1 h.2
  rw [← years_feb h] at hk
  subst hk
  by_cases hy : 4470 < yearOf d + n
  · have hp := lenM_pos (yearOf d + n) (monD d)
    have e1 : ofF (yearOf d + n) (monD d) (min (dayD d) (lenM (yearOf d + n) (monD d))) = (0, 2) := by
      unfold ofF; rw [if_pos]; rw [lenF_out (by omega)]; omega
    rw [e1]; unfold yearsF; simp [hy]
  · have hl : lenF (yearOf d + n) (monD d) = lenM (yearOf d + n) (monD d) := lenF_in (by omega)
    have ho := years_of h h0 (by omega)
    rw [hl] at ho
    rw [ho]; unfold yearsF; rw [if_neg hy]
    dsimp only
    split <;> simp
theorem yearEnd_ref {d : Int} (h : isDay d) : yearEndF d = if (ofF (yearOf d) 12 31).2 = 0 then (ofF (yearOf d) 12 31).1 else 1048575 := by
  have hr := yearOf_range h.1 h.2
  have hl : lenF (yearOf d) 12 = 31 := by rw [lenF_in (by omega)]; simp [lenM]
  rw [ofF_rng (by rw [hl]; omega)]
  have hc := cum_succ (y := yearOf d) (m := 12) (by omega) (by omega)
  have h13 := beg_cum (yearOf d)
  have hl2 : lenM (yearOf d) 12 = 31 := by simp [lenM]
  simp only [Int.reduceAdd] at hc
  unfold yearEndF ofD
  split <;> simp <;> omega


theorem ref02_leap_cs (σ : List Blk) (y : Int) (hy : 0 ≤ y) : CSF Tryz.prog 165 [.d (I y)] σ (.d (B (leapY y))) := by
  refine CSF.of_body T.en165 Tryz.func165 rfl (by simp [Tryz.ntmps165]) (by simp [go_sem]) fun hwf => ?_
  refine awp_reg_seq fun K hK => ?_
  simp [go_sem, Tryz.ntmps165]
  repeat refine ⟨by omega, ?_⟩
  refine hK _ ?_; clear hK K
  refine awp_reg_seq fun K hK => ?_
  simp [go_sem]
  try simp (disch := omega) only [tmodI]
  repeat refine ⟨by omega, ?_⟩
  refine hK _ ?_; clear hK K
  refine awp_ret ?_
  simp [go_sem, Tryz.results165, leap_or, Int.tmod_eq_emod_of_nonneg hy] <;> omega

theorem ref02_Good_cs (σ : List Blk) (d : Int) : CSF Tryz.prog 163 [.d (I d)] σ (.d (B (decide (isDay d)))) := by
  refine CSF.of_body T.en163 Tryz.func163 rfl (by simp [Tryz.ntmps163]) (by simp [go_sem]) fun hwf => ?_
  refine awp_reg_seq fun K hK => ?_
  simp [go_sem, Tryz.ntmps163]
  repeat refine ⟨by omega, ?_⟩
  refine hK _ ?_; clear hK K
  refine awp_reg_seq fun K hK => ?_
  simp [go_sem]
  repeat refine ⟨by omega, ?_⟩
  refine hK _ ?_; clear hK K
  refine awp_ret ?_
  simp [go_sem, Tryz.results163, isDay_dec] <;> omega

theorem ref02_before_cs (σ : List Blk) (y : Int) (h1 : 1600 ≤ y) (h2 : y ≤ 4700) : CSF Tryz.prog 179 [.d (I y)] σ (.d (I (beg y))) := by
  refine CSF.of_body T.en179 Tryz.func179 rfl (by simp [Tryz.ntmps179]) (by simp [go_sem]) fun hwf => ?_
  refine awp_reg_seq fun K hK => ?_
  simp [go_sem, Tryz.ntmps179]
  repeat refine ⟨by omega, ?_⟩
  refine hK _ ?_; clear hK K
  refine awp_reg_seq fun K hK => ?_
  simp [go_sem]
  try simp (disch := omega) only [wrapI]
  repeat refine ⟨by omega, ?_⟩
  refine hK _ ?_; clear hK K
  refine awp_seq ?_
  refine awp_reg_seq fun K hK => ?_
  simp [go_sem]
  repeat refine ⟨by omega, ?_⟩
  refine hK _ ?_; clear hK K
  refine awp_forget [3, 7] (by simp only [restr, List.contains_cons, List.contains_nil, Nat.reduceBEq, Bool.or_false, Bool.or_true, Bool.true_or, Bool.false_or, if_true, if_false, Bool.false_eq_true]; rfl) ?_
  refine awp_cond rfl (fun c0 => ?_) (fun c0 => ?_)
  · have d0 := c0; try simp at d0
    obtain rfl : y = 1600 := by omega
    refine awp_reg_seq fun K hK => ?_
    simp [go_sem, c0, d0]
    repeat refine ⟨by omega, ?_⟩
    refine hK _ ?_; clear hK K
    refine awp_ret ?_
    rw [beg_1600]; simp [go_sem, Tryz.results179]
  · have d0 := c0; try simp at d0
    refine awp_skip ?_
    refine awp_reg_seq fun K hK => ?_
    simp [go_sem, c0, d0]
    try simp (disch := omega) only [tdivI, wrapI]
    repeat refine ⟨by omega, ?_⟩
    refine hK _ ?_; clear hK K
    refine awp_ret ?_
    simp [go_sem, Tryz.results179]; rw [← before_eq (y := y) (by omega)]

theorem ref02_Length_cs (σ : List Blk) (y m : Int) : CSF Tryz.prog 180 [.d (I y), .d (I m)] σ (.d (I (lenF y m))) := by
  refine CSF.of_body T.en180 Tryz.func180 rfl (by simp [Tryz.ntmps180]) (by simp [go_sem]) fun hwf => ?_
  refine awp_reg_seq fun K hK => ?_
  simp [go_sem, Tryz.ntmps180]
  repeat refine ⟨by omega, ?_⟩
  refine hK _ ?_; clear hK K
  refine awp_seq ?_
  refine awp_reg_seq fun K hK => ?_
  simp [go_sem]
  repeat refine ⟨by omega, ?_⟩
  refine hK _ ?_; clear hK K
  refine awp_forget [0, 1, 18] (by simp only [restr, List.contains_cons, List.contains_nil, Nat.reduceBEq, Bool.or_false, Bool.or_true, Bool.true_or, Bool.false_or, if_true, if_false, Bool.false_eq_true]; rfl) ?_
  refine awp_cond rfl (fun c0 => ?_) (fun c0 => ?_)
  · have d0 := c0; try simp at d0
    refine awp_reg_seq fun K hK => ?_
    simp [go_sem, c0, d0]
    repeat refine ⟨by omega, ?_⟩
    refine hK _ ?_; clear hK K
    refine awp_ret ?_
    rw [lenF_out d0]; simp [go_sem, Tryz.results180]
  · have d0 := c0; try simp at d0
    refine awp_skip ?_
    refine awp_seq ?_
    refine awp_reg_seq fun K hK => ?_
    simp [go_sem, c0, d0]
    repeat refine ⟨by omega, ?_⟩
    refine CSm.mk (ref02_leap_cs _ y (by omega)) ?_
    simp [go_sem, c0, d0]
    repeat refine ⟨by omega, ?_⟩
    refine hK _ ?_; clear hK K
    refine awp_forget [1, 24] (by simp only [restr, List.contains_cons, List.contains_nil, Nat.reduceBEq, Bool.or_false, Bool.or_true, Bool.true_or, Bool.false_or, if_true, if_false, Bool.false_eq_true]; rfl) ?_
    refine awp_cond rfl (fun c1 => ?_) (fun c1 => ?_)
    · have d1 := c1; try simp at d1
      obtain ⟨rfl, d1⟩ := d1
      refine awp_reg_seq fun K hK => ?_
      simp [go_sem, c0, d0, c1, d1]
      repeat refine ⟨by omega, ?_⟩
      refine hK _ ?_; clear hK K
      refine awp_ret ?_
      rw [lenF_in (by omega), lenM_feb d1]; simp [go_sem, Tryz.results180]
    · have d1 := c1; try simp at d1
      refine awp_skip ?_
      refine awp_reg_seq fun K hK => ?_
      simp [go_sem, c0, d0, c1, d1]
      try simp (disch := omega) only [wrapI]
      have hL := lenM_arr (y := y) (m := m) (by omega) (by omega) d1
      simp [go_sem] at hL
      simp [go_sem, hL]
      repeat refine ⟨by omega, ?_⟩
      refine hK _ ?_; clear hK K
      refine awp_ret ?_
      rw [lenF_in (by omega)]; simp [go_sem, Tryz.results180]

theorem ref02_Of_cs (σ : List Blk) (y m k : Int) : CSF Tryz.prog 166 [.d (I y), .d (I m), .d (I k)] σ (.tup [.d (I (ofF y m k).1), .d (I (ofF y m k).2)]) := by
  refine CSF.of_body T.en166 Tryz.func166 rfl (by simp [Tryz.ntmps166]) (by simp [go_sem]) fun hwf => ?_
  refine awp_reg_seq fun K hK => ?_
  simp [go_sem, Tryz.ntmps166, cum_one]
  repeat refine ⟨by omega, ?_⟩
  refine hK _ ?_; clear hK K
  refine awp_seq ?_
  refine awp_reg_seq fun K hK => ?_
  simp [go_sem, cum_one]
  repeat refine ⟨by omega, ?_⟩
  refine CSm.mk (ref02_Length_cs _ _ _) ?_
  simp [go_sem, cum_one]
  repeat refine ⟨by omega, ?_⟩
  refine hK _ ?_; clear hK K
  refine awp_forget [0, 1, 2, 18] (by simp only [restr, List.contains_cons, List.contains_nil, Nat.reduceBEq, Bool.or_false, Bool.or_true, Bool.true_or, Bool.false_or, if_true, if_false, Bool.false_eq_true]; rfl) ?_
  refine awp_cond rfl (fun c0 => ?_) (fun c0 => ?_)
  · have d0 := c0; try simp at d0
    refine awp_reg_seq fun K hK => ?_
    simp [go_sem, cum_one, c0, d0]
    repeat refine ⟨by omega, ?_⟩
    refine hK _ ?_; clear hK K
    refine awp_ret ?_
    have hz : ofF y m k = (0, 2) := by unfold ofF; rw [if_pos (by omega)]
    rw [hz]; simp [go_sem, Tryz.results166]
  · have d0 := c0; try simp at d0
    obtain ⟨hy, hm1, hm2, hl⟩ := lenF_ne d0.1 d0.2
    have hb := beg_bd hy.1 (by omega)
    have hlm := lenM_le y m
    refine awp_skip ?_
    refine awp_reg_seq fun K hK => ?_
    simp [go_sem, cum_one, c0, d0]
    try simp (disch := omega) only [wrapI]
    repeat refine ⟨by omega, ?_⟩
    refine CSk.mk (ref02_before_cs _ y (by omega) (by omega)) ?_
    simp [go_sem, cum_one, c0, d0]
    try simp (disch := omega) only [wrapI]
    repeat refine ⟨by omega, ?_⟩
    refine hK _ ?_; clear hK K
    refine awp_seq ?_
    refine awp_reg_seq fun K hK => ?_
    simp [go_sem, cum_one, c0, d0]
    repeat refine ⟨by omega, ?_⟩
    refine hK _ ?_; clear hK K
    refine awp_block ?_
    refine awp_forget [0, 1, 8, 9] (by simp [go_sem, restr]; rfl) ?_
    refine awp_loopU (α := Nat) (fun q => [(8, .d (I (beg y + k - 1 + cum y (q + 1)))), (9, .d (I ((q + 1 : Nat) : Int)))]) (fun q => _) (fun q => (q : Int) + 1 ≤ m) (fun q => 12 - q) 0 (by simp [go_sem, cum_one]) rfl (by omega) ?_
    rintro q hq
    have hcb := cum_bd y (m := q + 1) (by omega) (by omega)
    refine awp_seq ?_
    refine awp_reg_seq fun K hK => ?_
    simp [go_sem, cum_one, c0, d0]
    repeat refine ⟨by omega, ?_⟩
    refine hK _ ?_; clear hK K
    refine awp_forget [0, 1, 8, 9, 26] (by simp only [restr, List.contains_cons, List.contains_nil, Nat.reduceBEq, Bool.or_false, Bool.or_true, Bool.true_or, Bool.false_or, if_true, if_false, Bool.false_eq_true]; rfl) ?_
    refine awp_cond rfl (fun c1 => ?_) (fun c1 => ?_)
    · have d1 := c1; try simp at d1
      have hlq : lenF y (q + 1) = lenM y (q + 1) := lenF_in (by omega)
      have hcs := cum_succ (y := y) (m := (q : Int) + 1) (by omega) (by omega)
      have hlb := lenM_le y (q + 1)
      have hlp := lenM_pos y (q + 1)
      refine awp_skip ?_
      refine awp_seq ?_
      refine awp_block ?_
      refine awp_reg_end fun K hK => ?_
      simp [go_sem, cum_one, c0, d0, c1, d1]
      try simp (disch := omega) only [wrapI]
      repeat refine ⟨by omega, ?_⟩
      refine CSk.mk (ref02_Length_cs _ _ _) ?_
      simp [go_sem, cum_one, c0, d0, c1, d1]
      try simp (disch := omega) only [wrapI]
      repeat refine ⟨by omega, ?_⟩
      refine hK _ ?_; clear hK K
      refine awp_reg_end fun K hK => ?_
      simp [go_sem, cum_one, c0, d0, c1, d1]
      try simp (disch := omega) only [wrapI]
      repeat refine ⟨by omega, ?_⟩
      refine hK _ ?_; clear hK K
      refine ⟨q + 1, back_of' (by simp) (.refl _) (by (simp [go_sem, cum_one, c0, d0, c1, d1] <;> omega)), by omega, by omega⟩
    · have d1 := c1; try simp at d1
      obtain rfl : m = q + 1 := by omega
      have ho : ofD y (q + 1) k = beg y + k - 1 + cum y (q + 1) := by unfold ofD; omega
      refine awp_exit ?_
      refine awp_seq ?_
      refine awp_reg_seq fun K hK => ?_
      simp [go_sem, cum_one, c0, d0, c1, d1]
      repeat refine ⟨by omega, ?_⟩
      refine hK _ ?_; clear hK K
      refine awp_forget [8, 35] (by simp only [restr, List.contains_cons, List.contains_nil, Nat.reduceBEq, Bool.or_false, Bool.or_true, Bool.true_or, Bool.false_or, if_true, if_false, Bool.false_eq_true]; rfl) ?_
      refine awp_cond rfl (fun c2 => ?_) (fun c2 => ?_)
      · have d2 := c2; try simp at d2
        refine awp_reg_seq fun K hK => ?_
        simp [go_sem, cum_one, c0, d0, c1, d1, c2, d2]
        repeat refine ⟨by omega, ?_⟩
        refine hK _ ?_; clear hK K
        refine awp_ret ?_
        rw [ofF_rng d0, ho, if_pos (by omega)]; simp [go_sem, Tryz.results166]
      · have d2 := c2; try simp at d2
        refine awp_skip ?_
        refine awp_reg_seq fun K hK => ?_
        simp [go_sem, cum_one, c0, d0, c1, d1, c2, d2]
        repeat refine ⟨by omega, ?_⟩
        refine hK _ ?_; clear hK K
        refine awp_ret ?_
        rw [ofF_rng d0, ho, if_neg (by omega)]; simp [go_sem, Tryz.results166]

theorem ref02_Date_cs (σ : List Blk) (d : Int) : CSF Tryz.prog 164 [.d (I d)] σ (.tup [.d (I (dateF d).1), .d (I (dateF d).2.1), .d (I (dateF d).2.2.1), .d (I (dateF d).2.2.2)]) := by
  refine CSF.of_body T.en164 Tryz.func164 rfl (by simp [Tryz.ntmps164]) (by simp [go_sem]) fun hwf => ?_
  refine awp_reg_seq fun K hK => ?_
  simp [go_sem, Tryz.ntmps164, cum_one]
  repeat refine ⟨by omega, ?_⟩
  refine hK _ ?_; clear hK K
  refine awp_seq ?_
  refine awp_reg_seq fun K hK => ?_
  simp [go_sem, cum_one]
  repeat refine ⟨by omega, ?_⟩
  refine CSk.mk (ref02_Good_cs _ _) ?_
  simp [go_sem, cum_one]
  repeat refine ⟨by omega, ?_⟩
  refine hK _ ?_; clear hK K
  refine awp_forget [0, 10] (by simp only [restr, List.contains_cons, List.contains_nil, Nat.reduceBEq, Bool.or_false, Bool.or_true, Bool.true_or, Bool.false_or, if_true, if_false, Bool.false_eq_true]; rfl) ?_
  refine awp_cond rfl (fun c0 => ?_) (fun c0 => ?_)
  · have d0 := c0; try simp at d0
    refine awp_reg_seq fun K hK => ?_
    simp [go_sem, cum_one, c0, d0]
    repeat refine ⟨by omega, ?_⟩
    refine hK _ ?_; clear hK K
    refine awp_ret ?_
    have hz : dateF d = (0, 0, 0, 2) := by unfold dateF; rw [if_neg d0]
    rw [hz]; simp [go_sem, Tryz.results164]
  · have d0 := c0; try simp at d0
    have hd : isDay d := d0
    have hgu := guess2_le hd
    have hgt := year_top hd hgu.2
    refine awp_skip ?_
    refine awp_reg_seq fun K hK => ?_
    simp [go_sem, cum_one, c0, d0]
    try simp (disch := omega) only [tdivI, wrapI]
    repeat refine ⟨by omega, ?_⟩
    refine hK _ ?_; clear hK K
    refine awp_seq ?_
    refine awp_block ?_
    refine awp_forget [0, 6] (by simp [go_sem, restr]; rfl) ?_
    refine awp_loopU (α := Int) (fun y => [(6, .d (I y))]) (fun y => _) (fun y => 1600 ≤ y ∧ beg y ≤ d) (fun y => (4471 - y).toNat) (1600 + d / 366) (by simp [go_sem, cum_one]) rfl (hgu) ?_
    rintro y ⟨hy1, hy2⟩
    have hy3 := year_top hd hy2
    refine awp_seq ?_
    refine awp_reg_seq fun K hK => ?_
    simp [go_sem, cum_one, c0, d0]
    try simp (disch := omega) only [wrapI]
    repeat refine ⟨by omega, ?_⟩
    refine CSk.mk (ref02_before_cs _ (y + 1) (by omega) (by omega)) ?_
    simp [go_sem, cum_one, c0, d0]
    try simp (disch := omega) only [wrapI]
    repeat refine ⟨by omega, ?_⟩
    refine hK _ ?_; clear hK K
    refine awp_forget [0, 6, 18] (by simp only [restr, List.contains_cons, List.contains_nil, Nat.reduceBEq, Bool.or_false, Bool.or_true, Bool.true_or, Bool.false_or, if_true, if_false, Bool.false_eq_true]; rfl) ?_
    refine awp_cond rfl (fun c1 => ?_) (fun c1 => ?_)
    · have d1 := c1; try simp at d1
      have hy4 := year_top hd d1
      refine awp_skip ?_
      refine awp_block ?_
      refine awp_reg_end fun K hK => ?_
      simp [go_sem, cum_one, c0, d0, c1, d1]
      try simp (disch := omega) only [wrapI]
      repeat refine ⟨by omega, ?_⟩
      refine hK _ ?_; clear hK K
      refine ⟨y + 1, back_of' (by simp) (.refl _) (by (simp [go_sem, cum_one, c0, d0, c1, d1] <;> omega)), ⟨by omega, d1⟩, by omega⟩
    · have d1 := c1; try simp at d1
      obtain rfl : yearOf d = y := yearOf_eq hd.1 hd.2 hy2 (by omega)
      have hbb := beg_bd hy1 (by omega)
      have hdi := hd
      unfold isDay at hdi
      refine awp_exit ?_
      refine awp_reg_seq fun K hK => ?_
      simp [go_sem, cum_one, c0, d0, c1, d1]
      try simp (disch := omega) only [wrapI]
      repeat refine ⟨by omega, ?_⟩
      refine CSk.mk (ref02_before_cs _ (yearOf d) (by omega) (by omega)) ?_
      simp [go_sem, cum_one, c0, d0, c1, d1]
      try simp (disch := omega) only [wrapI]
      repeat refine ⟨by omega, ?_⟩
      refine hK _ ?_; clear hK K
      refine awp_reg_seq fun K hK => ?_
      simp [go_sem, cum_one, c0, d0, c1, d1]
      repeat refine ⟨by omega, ?_⟩
      refine hK _ ?_; clear hK K
      refine awp_seq ?_
      refine awp_block ?_
      refine awp_forget [0, 6, 7] (by simp [go_sem, restr]; rfl) ?_
      refine awp_loopU (α := Int) (fun m => [(0, .d (I (d - beg (yearOf d) - cum (yearOf d) m))), (7, .d (I m))]) (fun m => _) (fun m => 1 ≤ m ∧ m ≤ 12 ∧ cum (yearOf d) m ≤ d - beg (yearOf d)) (fun m => (12 - m).toNat) 1 (by simp [go_sem, cum_one]) rfl (⟨by omega, by omega, by rw [cum_one]; omega⟩) ?_
      rintro m ⟨hm1, hm2, hm3⟩
      have hlf : lenF (yearOf d) m = lenM (yearOf d) m := lenF_in (by omega)
      have hcs := cum_succ (y := yearOf d) hm1 hm2
      have hlb := lenM_le (yearOf d) m
      have hlp := lenM_pos (yearOf d) m
      have hcb := cum_bd (yearOf d) hm1 (by omega)
      refine awp_seq ?_
      refine awp_reg_seq fun K hK => ?_
      simp [go_sem, cum_one, c0, d0, c1, d1]
      repeat refine ⟨by omega, ?_⟩
      refine CSk.mk (ref02_Length_cs _ _ _) ?_
      simp [go_sem, cum_one, c0, d0, c1, d1]
      repeat refine ⟨by omega, ?_⟩
      refine hK _ ?_; clear hK K
      refine awp_forget [0, 6, 7, 29] (by simp only [restr, List.contains_cons, List.contains_nil, Nat.reduceBEq, Bool.or_false, Bool.or_true, Bool.true_or, Bool.false_or, if_true, if_false, Bool.false_eq_true]; rfl) ?_
      refine awp_cond rfl (fun c2 => ?_) (fun c2 => ?_)
      · have d2 := c2; try simp at d2
        have hm4 : m ≠ 12 := by
          rintro rfl
          have := (yearOf_spec hd.1 hd.2).2
          rw [beg_cum] at this
          simp only [Int.reduceAdd] at hcs
          omega
        refine awp_skip ?_
        refine awp_block ?_
        refine awp_reg_seq fun K hK => ?_
        simp [go_sem, cum_one, c0, d0, c1, d1, c2, d2]
        try simp (disch := omega) only [wrapI]
        repeat refine ⟨by omega, ?_⟩
        refine CSk.mk (ref02_Length_cs _ _ _) ?_
        simp [go_sem, cum_one, c0, d0, c1, d1, c2, d2]
        try simp (disch := omega) only [wrapI]
        repeat refine ⟨by omega, ?_⟩
        refine hK _ ?_; clear hK K
        refine awp_reg_end fun K hK => ?_
        simp [go_sem, cum_one, c0, d0, c1, d1, c2, d2]
        try simp (disch := omega) only [wrapI]
        repeat refine ⟨by omega, ?_⟩
        refine hK _ ?_; clear hK K
        refine ⟨m + 1, back_of' (by simp) (.refl _) (by (simp [go_sem, cum_one, c0, d0, c1, d1, c2, d2] <;> omega)), ⟨by omega, by omega, by omega⟩, by omega⟩
      · have d2 := c2; try simp at d2
        obtain rfl : monD d = m := by
          unfold monD
          have := (yearOf_spec hd.1 hd.2).2
          rw [beg_cum] at this
          have hs := monOf_spec (y := yearOf d) (r := d - beg (yearOf d)) (by omega) (by omega)
          exact month_unique hs.2.2.1 hs.2.2.2 hm3 (by omega)
        refine awp_exit ?_
        refine awp_reg_seq fun K hK => ?_
        simp [go_sem, cum_one, c0, d0, c1, d1, c2, d2]
        try simp (disch := omega) only [wrapI]
        repeat refine ⟨by omega, ?_⟩
        refine hK _ ?_; clear hK K
        refine awp_ret ?_
        have hz : dateF d = (yearOf d, monD d, dayD d, 0) := by unfold dateF; rw [if_pos hd]
        rw [hz]; simp [go_sem, Tryz.results164, dayD]

theorem ref02_Years_cs (σ : List Blk) (d n : Int) : CSF Tryz.prog 151 [.d (I d), .d (I n)] σ (.tup [.d (I (yearsR d n).1), .d (I (yearsR d n).2)]) := by
  refine CSF.of_body T.en151 Tryz.func151 rfl (by simp [Tryz.ntmps151]) (by simp [go_sem]) fun hwf => ?_
  refine awp_reg_seq fun K hK => ?_
  simp [go_sem, Tryz.ntmps151]
  repeat refine ⟨by omega, ?_⟩
  refine hK _ ?_; clear hK K
  refine awp_seq ?_
  refine awp_reg_seq fun K hK => ?_
  simp [go_sem]
  repeat refine ⟨by omega, ?_⟩
  refine CSk.mk (ref02_Good_cs _ _) ?_
  simp [go_sem]
  repeat refine ⟨by omega, ?_⟩
  refine hK _ ?_; clear hK K
  refine awp_forget [0, 1, 22] (by simp only [restr, List.contains_cons, List.contains_nil, Nat.reduceBEq, Bool.or_false, Bool.or_true, Bool.true_or, Bool.false_or, if_true, if_false, Bool.false_eq_true]; rfl) ?_
  refine awp_cond rfl (fun c0 => ?_) (fun c0 => ?_)
  · have d0 := c0; try simp at d0
    have hz : yearsR d n = (0, 2) := by
      unfold yearsR
      rw [if_neg]
      rintro ⟨h1, h2, h3⟩
      rcases d0 with (h | h) | h
      · exact h h1
      · omega
      · omega
    refine awp_reg_seq fun K hK => ?_
    simp [go_sem, c0, d0]
    repeat refine ⟨by omega, ?_⟩
    refine hK _ ?_; clear hK K
    refine awp_ret ?_
    rw [hz]; simp [go_sem, Tryz.results151]
  · have d0 := c0; try simp at d0
    have hd : isDay d := d0.1.1
    have hr := yearOf_range hd.1 hd.2
    have hz : yearsR d n = (yearsF d n, 0) := by unfold yearsR; rw [if_pos ⟨hd, by omega, by omega⟩]
    have hdf := dateF_ok hd
    refine awp_skip ?_
    refine awp_reg_seq fun K hK => ?_
    simp [go_sem, c0, d0, hdf]
    repeat refine ⟨by omega, ?_⟩
    refine CSk.mk (ref02_Date_cs _ _) ?_
    simp [go_sem, c0, d0, hdf]
    repeat refine ⟨by omega, ?_⟩
    refine hK _ ?_; clear hK K
    refine awp_reg_seq fun K hK => ?_
    simp [go_sem, c0, d0, hdf]
    try simp (disch := omega) only [wrapI]
    repeat refine ⟨by omega, ?_⟩
    refine hK _ ?_; clear hK K
    refine awp_seq ?_
    refine awp_reg_seq fun K hK => ?_
    simp [go_sem, c0, d0, hdf]
    repeat refine ⟨by omega, ?_⟩
    refine CSm.mk (ref02_leap_cs _ (yearOf d + n) (by omega)) ?_
    simp [go_sem, c0, d0, hdf]
    repeat refine ⟨by omega, ?_⟩
    refine hK _ ?_; clear hK K
    refine awp_forget [6, 7, 8, 43] (by simp only [restr, List.contains_cons, List.contains_nil, Nat.reduceBEq, Bool.or_false, Bool.or_true, Bool.true_or, Bool.false_or, if_true, if_false, Bool.false_eq_true]; rfl) ?_
    refine awp_cond rfl (fun c1 => ?_) (fun c1 => ?_)
    · have d1 := c1; try simp at d1
      have hy := years_ref hd (n := n) (by omega) (by omega) (k := 28) (by rw [if_pos d1])
      rw [d1.1.1] at hy
      refine awp_reg_end fun K hK => ?_
      simp [go_sem, c0, d0, hdf, c1, d1]
      repeat refine ⟨by omega, ?_⟩
      refine hK _ ?_; clear hK K
      refine awp_reg_seq fun K hK => ?_
      simp [go_sem, c0, d0, hdf, c1, d1]
      repeat refine ⟨by omega, ?_⟩
      refine CSk.mk (ref02_Of_cs _ _ _ _) ?_
      simp [go_sem, c0, d0, hdf, c1, d1]
      repeat refine ⟨by omega, ?_⟩
      refine hK _ ?_; clear hK K
      refine awp_seq ?_
      refine awp_reg_seq fun K hK => ?_
      simp [go_sem, c0, d0, hdf, c1, d1]
      repeat refine ⟨by omega, ?_⟩
      refine hK _ ?_; clear hK K
      refine awp_forget [10, 52] (by simp only [restr, List.contains_cons, List.contains_nil, Nat.reduceBEq, Bool.or_false, Bool.or_true, Bool.true_or, Bool.false_or, if_true, if_false, Bool.false_eq_true]; rfl) ?_
      refine awp_cond rfl (fun c2 => ?_) (fun c2 => ?_)
      · have d2 := c2; try simp at d2
        rw [if_neg d2] at hy
        refine awp_reg_seq fun K hK => ?_
        simp [go_sem, c0, d0, hdf, c1, d1, c2, d2]
        repeat refine ⟨by omega, ?_⟩
        refine hK _ ?_; clear hK K
        refine awp_ret ?_
        rw [hz, hy]; simp [go_sem, Tryz.results151]
      · have d2 := c2; try simp at d2
        rw [if_pos d2] at hy
        refine awp_skip ?_
        refine awp_reg_seq fun K hK => ?_
        simp [go_sem, c0, d0, hdf, c1, d1, c2, d2]
        repeat refine ⟨by omega, ?_⟩
        refine hK _ ?_; clear hK K
        refine awp_ret ?_
        rw [hz, hy]; simp [go_sem, Tryz.results151]
    · have d1 := c1; try simp at d1
      have hy := years_ref hd (n := n) (by omega) (by omega) (k := dayD d) (by rw [if_neg]; rintro ⟨⟨h1, h2⟩, h3⟩; exact absurd (d1 h1 h2) (by simp [h3]))
      refine awp_skip ?_
      refine awp_reg_seq fun K hK => ?_
      simp [go_sem, c0, d0, hdf, c1, d1]
      repeat refine ⟨by omega, ?_⟩
      refine CSk.mk (ref02_Of_cs _ _ _ _) ?_
      simp [go_sem, c0, d0, hdf, c1, d1]
      repeat refine ⟨by omega, ?_⟩
      refine hK _ ?_; clear hK K
      refine awp_seq ?_
      refine awp_reg_seq fun K hK => ?_
      simp [go_sem, c0, d0, hdf, c1, d1]
      repeat refine ⟨by omega, ?_⟩
      refine hK _ ?_; clear hK K
      refine awp_forget [10, 52] (by simp only [restr, List.contains_cons, List.contains_nil, Nat.reduceBEq, Bool.or_false, Bool.or_true, Bool.true_or, Bool.false_or, if_true, if_false, Bool.false_eq_true]; rfl) ?_
      refine awp_cond rfl (fun c3 => ?_) (fun c3 => ?_)
      · have d3 := c3; try simp at d3
        rw [if_neg d3] at hy
        refine awp_reg_seq fun K hK => ?_
        simp [go_sem, c0, d0, hdf, c1, d1, c3, d3]
        repeat refine ⟨by omega, ?_⟩
        refine hK _ ?_; clear hK K
        refine awp_ret ?_
        rw [hz, hy]; simp [go_sem, Tryz.results151]
      · have d3 := c3; try simp at d3
        rw [if_pos d3] at hy
        refine awp_skip ?_
        refine awp_reg_seq fun K hK => ?_
        simp [go_sem, c0, d0, hdf, c1, d1, c3, d3]
        repeat refine ⟨by omega, ?_⟩
        refine hK _ ?_; clear hK K
        refine awp_ret ?_
        rw [hz, hy]; simp [go_sem, Tryz.results151]

theorem ref02_YearEnd_cs (σ : List Blk) (d : Int) : CSF Tryz.prog 152 [.d (I d)] σ (.tup [.d (I (yearEndR d).1), .d (I (yearEndR d).2)]) := by
  refine CSF.of_body T.en152 Tryz.func152 rfl (by simp [Tryz.ntmps152]) (by simp [go_sem]) fun hwf => ?_
  refine awp_reg_seq fun K hK => ?_
  simp [go_sem, Tryz.ntmps152]
  repeat refine ⟨by omega, ?_⟩
  refine hK _ ?_; clear hK K
  refine awp_reg_seq fun K hK => ?_
  simp [go_sem]
  repeat refine ⟨by omega, ?_⟩
  refine CSk.mk (ref02_Date_cs _ _) ?_
  simp [go_sem]
  repeat refine ⟨by omega, ?_⟩
  refine hK _ ?_; clear hK K
  refine awp_seq ?_
  refine awp_reg_seq fun K hK => ?_
  simp [go_sem]
  repeat refine ⟨by omega, ?_⟩
  refine hK _ ?_; clear hK K
  refine awp_forget [4, 7, 18] (by simp only [restr, List.contains_cons, List.contains_nil, Nat.reduceBEq, Bool.or_false, Bool.or_true, Bool.true_or, Bool.false_or, if_true, if_false, Bool.false_eq_true]; rfl) ?_
  refine awp_cond rfl (fun c0 => ?_) (fun c0 => ?_)
  · have d0 := c0; try simp at d0
    have hn : ¬ isDay d := fun h => d0 (date_err.2 h)
    have hz : yearEndR d = (0, 2) := by unfold yearEndR; rw [if_neg hn]
    refine awp_reg_seq fun K hK => ?_
    simp [go_sem, c0, d0]
    repeat refine ⟨by omega, ?_⟩
    refine hK _ ?_; clear hK K
    refine awp_ret ?_
    rw [hz]; simp [go_sem, Tryz.results152, dateF_no hn]
  · have d0 := c0; try simp at d0
    have hd : isDay d := date_err.1 d0
    have hy := yearEnd_ref hd
    have hz : yearEndR d = (yearEndF d, 0) := by unfold yearEndR; rw [if_pos hd]
    simp only [dateF_ok hd] at c0 d0 ⊢
    refine awp_skip ?_
    refine awp_reg_seq fun K hK => ?_
    simp [go_sem, c0, d0]
    repeat refine ⟨by omega, ?_⟩
    refine CSk.mk (ref02_Of_cs _ _ _ _) ?_
    simp [go_sem, c0, d0]
    repeat refine ⟨by omega, ?_⟩
    refine hK _ ?_; clear hK K
    refine awp_seq ?_
    refine awp_reg_seq fun K hK => ?_
    simp [go_sem, c0, d0]
    repeat refine ⟨by omega, ?_⟩
    refine hK _ ?_; clear hK K
    refine awp_forget [8, 26] (by simp only [restr, List.contains_cons, List.contains_nil, Nat.reduceBEq, Bool.or_false, Bool.or_true, Bool.true_or, Bool.false_or, if_true, if_false, Bool.false_eq_true]; rfl) ?_
    refine awp_cond rfl (fun c1 => ?_) (fun c1 => ?_)
    · have d1 := c1; try simp at d1
      rw [if_neg d1] at hy
      refine awp_reg_seq fun K hK => ?_
      simp [go_sem, c0, d0, c1, d1]
      repeat refine ⟨by omega, ?_⟩
      refine hK _ ?_; clear hK K
      refine awp_ret ?_
      rw [hz, hy]; simp [go_sem, Tryz.results152]
    · have d1 := c1; try simp at d1
      rw [if_pos d1] at hy
      refine awp_skip ?_
      refine awp_reg_seq fun K hK => ?_
      simp [go_sem, c0, d0, c1, d1]
      repeat refine ⟨by omega, ?_⟩
      refine hK _ ?_; clear hK K
      refine awp_ret ?_
      rw [hz, hy]; simp [go_sem, Tryz.results152]

end Go.Proofs.YtkochmppmpmddaaGreat

/-! Be -/
namespace Go.Proofs.YtkochmppmpmddaaGreat
open Go.Abs Go.Arch
set_option linter.unusedVariables false
set_option linter.unusedSimpArgs false
set_option maxRecDepth 100000
set_option maxHeartbeats 400000

structure Dating where
  First : Int
  Last : Int
def Dating.enc (m : Dating) : List D := [I m.First, I m.Last]
structure Ground where
  Kind : Int
  Source : Int
  Unit : Int
  Until : Int
def Ground.enc (m : Ground) : List D := [I m.Kind, I m.Source, I m.Unit, I m.Until]
def Ground.zero : Ground := ⟨0, 0, 0, 0⟩
def Rule.zero : Rule := ⟨0, 0, 0, false, ⟨0, 0⟩⟩
attribute [go_sem] Dating.enc Ground.enc
def datOk (m : Dating) : Bool := decide (0 ≤ m.First) && decide (m.First ≤ m.Last) && decide (m.Last ≤ 1048575)
def datChk (m : Dating) : Int := if datOk m = true then 0 else 1
theorem datChk_no {m : Dating} (h : (m.First < 0 ∨ m.Last < m.First) ∨ 1048575 < m.Last) : datChk m = 1 := by
  unfold datChk datOk; rw [if_neg]; simp; omega
theorem datChk_ok {m : Dating} (h : (0 ≤ m.First ∧ m.First ≤ m.Last) ∧ m.Last ≤ 1048575) : datChk m = 0 := by
  unfold datChk datOk; rw [if_pos]; simpa using h
theorem datChk_0 {m : Dating} : datChk m = 0 ↔ datOk m = true := by unfold datChk; split <;> simp_all
theorem datOk_day {m : Dating} (h : datOk m = true) : isDay m.Last := by
  unfold datOk at h; simp at h; unfold isDay; omega
theorem ofD_nn {y m k : Int} (h1 : 1600 ≤ y) (h2 : y ≤ 4700) (h3 : 1 ≤ m) (h4 : m ≤ 12) (h5 : 1 ≤ k) : 0 ≤ ofD y m k := by
  have := beg_bd h1 h2
  have := cum_bd y h3 (by omega)
  unfold ofD; omega
theorem yearsF_bd {d n : Int} (h : isDay d) (h0 : 0 ≤ n) : isDay (yearsF d n) := by
  have hs := date_spec h.1 h.2
  have hr := yearOf_range h.1 h.2
  unfold yearsF isDay
  dsimp only
  split
  · omega
  · have hp := lenM_pos (yearOf d + n) (monD d)
    have := ofD_nn (y := yearOf d + n) (m := monD d) (k := min (dayD d) (lenM (yearOf d + n) (monD d))) (by omega) (by omega) hs.1 hs.2.1 (by omega)
    split <;> omega
theorem yearsR_bd (d n : Int) : isDay (yearsR d n).1 := by
  unfold yearsR
  split
  · rename_i h; exact yearsF_bd h.1 h.2.1
  · unfold isDay; simp
theorem yearEndF_bd {d : Int} (h : isDay d) : isDay (yearEndF d) := by
  have hr := yearOf_range h.1 h.2
  have hb := beg_bd (y := yearOf d) (by omega) (by omega)
  have hs := beg_strict (a := yearOf d) (b := yearOf d + 1) (by omega)
  unfold yearEndF isDay; omega
theorem yearEndR_bd (d : Int) : isDay (yearEndR d).1 := by
  unfold yearEndR
  split
  · rename_i h; exact yearEndF_bd h
  · unfold isDay; simp
def lastF (r : Rule) (m : Dating) : Int := if r.YearEnd = true then (yearEndR (yearsR m.Last r.Years).1).1 else (yearsR m.Last r.Years).1
theorem lastF_bd (r : Rule) (m : Dating) : isDay (lastF r m) := by
  unfold lastF
  split
  · exact yearEndR_bd _
  · exact yearsR_bd _ _


theorem dating_Check_cs (σ : List Blk) (m : Dating) : CSF Tryz.prog 72 [.agg (m.enc.map .d)] σ (.d (I (datChk m))) := by
  refine CSF.of_body T.en72 Tryz.func72 rfl (by simp [Tryz.ntmps72]) (by simp [go_sem]) fun hwf => ?_
  refine awp_reg_seq fun K hK => ?_
  simp [go_sem, Tryz.ntmps72]
  repeat refine ⟨by omega, ?_⟩
  refine hK _ ?_; clear hK K
  refine awp_seq ?_
  refine awp_reg_seq fun K hK => ?_
  simp [go_sem]
  repeat refine ⟨by omega, ?_⟩
  refine hK _ ?_; clear hK K
  refine awp_forget [17] (by simp only [restr, List.contains_cons, List.contains_nil, Nat.reduceBEq, Bool.or_false, Bool.or_true, Bool.true_or, Bool.false_or, if_true, if_false, Bool.false_eq_true]; rfl) ?_
  refine awp_cond rfl (fun c0 => ?_) (fun c0 => ?_)
  · have d0 := c0; try simp at d0
    refine awp_reg_seq fun K hK => ?_
    simp [go_sem, c0, d0]
    repeat refine ⟨by omega, ?_⟩
    refine hK _ ?_; clear hK K
    refine awp_ret ?_
    rw [datChk_no d0]; simp [go_sem, Tryz.results72]
  · have d0 := c0; try simp at d0
    refine awp_skip ?_
    refine awp_reg_seq fun K hK => ?_
    simp [go_sem, c0, d0]
    repeat refine ⟨by omega, ?_⟩
    refine hK _ ?_; clear hK K
    refine awp_ret ?_
    rw [datChk_ok d0]; simp [go_sem, Tryz.results72]

theorem ref03_Good_cs (σ : List Blk) (m : Dating) : CSF Tryz.prog 122 [.agg (m.enc.map .d)] σ (.d (B (datOk m))) := by
  refine CSF.of_body T.en122 Tryz.func122 rfl (by simp [Tryz.ntmps122]) (by simp [go_sem]) fun hwf => ?_
  refine awp_reg_seq fun K hK => ?_
  simp [go_sem, Tryz.ntmps122]
  repeat refine ⟨by omega, ?_⟩
  refine hK _ ?_; clear hK K
  refine awp_reg_seq fun K hK => ?_
  simp [go_sem]
  repeat refine ⟨by omega, ?_⟩
  refine hK _ ?_; clear hK K
  refine awp_ret ?_
  simp [go_sem, Tryz.results122, datOk] <;> omega

theorem ref03_Check_cs (σ : List Blk) (m : Dating) : CSF Tryz.prog 92 [.agg (m.enc.map .d)] σ (.d (I (datChk m))) := by
  refine CSF.of_body T.en92 Tryz.func92 rfl (by simp [Tryz.ntmps92]) (by simp [go_sem]) fun hwf => ?_
  refine awp_reg_seq fun K hK => ?_
  simp [go_sem, Tryz.ntmps92]
  repeat refine ⟨by omega, ?_⟩
  refine hK _ ?_; clear hK K
  refine awp_seq ?_
  refine awp_reg_seq fun K hK => ?_
  simp [go_sem]
  repeat refine ⟨by omega, ?_⟩
  refine CSk.mk (ref03_Good_cs _ _) ?_
  simp [go_sem]
  repeat refine ⟨by omega, ?_⟩
  refine hK _ ?_; clear hK K
  refine awp_cond rfl (fun c0 => ?_) (fun c0 => ?_)
  · have d0 := c0; try simp at d0
    refine awp_reg_seq fun K hK => ?_
    simp [go_sem, c0, d0]
    repeat refine ⟨by omega, ?_⟩
    refine hK _ ?_; clear hK K
    refine awp_ret ?_
    simp [go_sem, Tryz.results92, datChk, c0, d0] <;> omega
  · have d0 := c0; try simp at d0
    refine awp_skip ?_
    refine awp_reg_seq fun K hK => ?_
    simp [go_sem, c0, d0]
    repeat refine ⟨by omega, ?_⟩
    refine hK _ ?_; clear hK K
    refine awp_ret ?_
    simp [go_sem, Tryz.results92, datChk, c0, d0] <;> omega

theorem closure_until_cs (σ : List Blk) (r : Rule) (m : Dating) : CSF Tryz.prog 136 [.agg (r.enc.map .d), .agg (m.enc.map .d)] σ (.d (I (lastF r m + 1))) := by
  refine CSF.of_body T.en136 Tryz.func136 rfl (by simp [Tryz.ntmps136]) (by simp [go_sem]) fun hwf => ?_
  refine awp_reg_seq fun K hK => ?_
  simp [go_sem, Tryz.ntmps136]
  repeat refine ⟨by omega, ?_⟩
  refine hK _ ?_; clear hK K
  refine awp_reg_seq fun K hK => ?_
  simp [go_sem]
  repeat refine ⟨by omega, ?_⟩
  refine CSk.mk (day_Years_cs _ m.Last r.Years) ?_
  simp [go_sem]
  repeat refine ⟨by omega, ?_⟩
  refine hK _ ?_; clear hK K
  refine awp_seq ?_
  refine awp_reg_seq fun K hK => ?_
  simp [go_sem]
  repeat refine ⟨by omega, ?_⟩
  refine hK _ ?_; clear hK K
  refine awp_forget [5, 16] (by simp only [restr, List.contains_cons, List.contains_nil, Nat.reduceBEq, Bool.or_false, Bool.or_true, Bool.true_or, Bool.false_or, if_true, if_false, Bool.false_eq_true]; rfl) ?_
  refine awp_cond rfl (fun c0 => ?_) (fun c0 => ?_)
  · have d0 := c0; try simp at d0
    have hl : lastF r m = (yearEndR (yearsR m.Last r.Years).1).1 := by unfold lastF; rw [if_pos c0]
    have hb := lastF_bd r m
    rw [hl] at hb ⊢
    unfold isDay at hb
    refine awp_reg_end fun K hK => ?_
    simp [go_sem, c0, d0]
    repeat refine ⟨by omega, ?_⟩
    refine CSk.mk (day_YearEnd_cs _ (yearsR m.Last r.Years).1) ?_
    simp [go_sem, c0, d0]
    repeat refine ⟨by omega, ?_⟩
    refine hK _ ?_; clear hK K
    refine awp_reg_seq fun K hK => ?_
    simp [go_sem, c0, d0]
    try simp (disch := omega) only [wrapI]
    repeat refine ⟨by omega, ?_⟩
    refine hK _ ?_; clear hK K
    refine awp_ret ?_
    simp [go_sem, Tryz.results136, c0, d0] <;> omega
  · have d0 := c0; try simp at d0
    have hl : lastF r m = (yearsR m.Last r.Years).1 := by unfold lastF; rw [if_neg (by simp [c0])]
    have hb := lastF_bd r m
    rw [hl] at hb ⊢
    unfold isDay at hb
    refine awp_skip ?_
    refine awp_reg_seq fun K hK => ?_
    simp [go_sem, c0, d0]
    try simp (disch := omega) only [wrapI]
    repeat refine ⟨by omega, ?_⟩
    refine hK _ ?_; clear hK K
    refine awp_ret ?_
    simp [go_sem, Tryz.results136, c0, d0] <;> omega

def untilR (r : Rule) (m : Dating) : Int × Int := if formed r = false then (0, 2) else if datChk m ≠ 0 then (0, 1) else (lastF r m + 1, 0)
def inB (k d : Int) (r : Rule) : Bool := (r.Class == k) && decide (r.In.From ≤ d) && decide (d < r.In.Until)
theorem closure_InForce_1_cs (σ : List Blk) (τ : List Blk) (r : Rule) (k d : Int) : CSF Tryz.prog 154 [.agg (r.enc.map .d), .ptr σ.length 0, .ptr (σ.length + 1) 0] (σ ++ .var [.d (I k)] :: .var [.d (I d)] :: τ) (.d (B (inB k d r))) := by
  refine CSF.of_body T.en154 Tryz.func154 rfl (by simp [Tryz.ntmps154]) (by simp [go_sem]) fun hwf => ?_
  refine awp_reg_seq fun K hK => ?_
  simp [go_sem, Tryz.ntmps154]
  repeat refine ⟨by omega, ?_⟩
  refine hK _ ?_; clear hK K
  refine awp_reg_seq fun K hK => ?_
  simp [go_sem]
  repeat refine ⟨by omega, ?_⟩
  refine hK _ ?_; clear hK K
  refine awp_ret ?_
  simp [go_sem, Tryz.results154, inB] <;> omega

def inForceI (n : Nat) (g : Nat → Rule) (k d : Int) : Int := idxFrom (inB k d) (lst n g) 0
theorem inForceI_lt (n : Nat) (g : Nat → Rule) (k d : Int) : inForceI n g k d < n := by
  rcases idx_spec (inB k d) (lst n g) 0 with ⟨h, _⟩ | ⟨q, h1, h2, _⟩
  · unfold inForceI; omega
  · unfold inForceI; rw [lst_length] at h1; omega
def inForceR (n : Nat) (g : Nat → Rule) (k d : Int) : Rule × Bool := if inForceI n g k d < 0 ∨ check n g ≠ 0 then (Rule.zero, false) else (g (inForceI n g k d).toNat, true)
theorem closure_InForce_cs (σ : List Blk) (c : Option Nat) (n : Nat) (g : Nat → Rule) (k d : Int) (hn : n < 1000000000) : CSF Tryz.prog 135 [.d (SL c 6 Rule.enc n g), .d (I k), .d (I d)] σ (.tup [.agg ((inForceR n g k d).1.enc.map .d), .d (B (inForceR n g k d).2)]) := by
  have hlt := inForceI_lt n g k d
  refine CSF.of_body T.en135 Tryz.func135 rfl (by simp [Tryz.ntmps135]) (by simp [go_sem]) fun hwf => ?_
  refine awp_reg_seq fun K hK => ?_
  simp [go_sem, Tryz.ntmps135]
  repeat refine ⟨by omega, ?_⟩
  refine hK _ ?_; clear hK K
  refine awp_reg_seq fun K hK => ?_
  simp [go_sem]
  repeat refine ⟨by omega, ?_⟩
  refine CSk.mk ((show CSF Tryz.prog 117 _ _ (.d (I (inForceI n g k d))) from indexRule_cs _ c n g _ _ (inB k d) hn (fun i hi => closure_InForce_1_cs σ _ (g i) k d))) ?_
  simp [go_sem]
  repeat refine ⟨by omega, ?_⟩
  refine hK _ ?_; clear hK K
  refine awp_seq ?_
  refine awp_reg_seq fun K hK => ?_
  simp [go_sem]
  repeat refine ⟨by omega, ?_⟩
  refine CSm.mk (closure_Check_cs _ c n g hn) ?_
  simp [go_sem]
  repeat refine ⟨by omega, ?_⟩
  refine hK _ ?_; clear hK K
  refine awp_forget [0, 6, 8, 18] (by simp only [restr, List.contains_cons, List.contains_nil, Nat.reduceBEq, Bool.or_false, Bool.or_true, Bool.true_or, Bool.false_or, if_true, if_false, Bool.false_eq_true]; rfl) ?_
  refine awp_cond rfl (fun c0 => ?_) (fun c0 => ?_)
  · have d0 := c0; try simp at d0
    refine awp_reg_seq fun K hK => ?_
    simp [go_sem, c0, d0]
    repeat refine ⟨by omega, ?_⟩
    refine hK _ ?_; clear hK K
    refine awp_ret ?_
    have hz : inForceR n g k d = (Rule.zero, false) := by unfold inForceR; rw [if_pos d0]
    rw [hz]; simp [go_sem, Tryz.results135, Rule.zero]
  · have d0 := c0; try simp at d0
    refine awp_skip ?_
    refine awp_reg_seq fun K hK => ?_
    simp [go_sem, c0, d0]
    repeat refine ⟨by omega, ?_⟩
    refine hK _ ?_; clear hK K
    refine awp_ret ?_
    have hz : inForceR n g k d = (g (inForceI n g k d).toNat, true) := by unfold inForceR; rw [if_neg (by omega)]
    rw [hz]; simp [go_sem, Tryz.results135]

def closedR (n : Nat) (g : Nat → Rule) (k : Int) (m : Dating) (d : Int) : Ground × Bool :=
  if (inForceR n g k d).2 = false ∨ datChk m ≠ 0 ∨ lastF (inForceR n g k d).1 m + 1 ≤ d then (Ground.zero, false) else (⟨1, (inForceR n g k d).1.ID, 0, lastF (inForceR n g k d).1 m + 1⟩, true)
theorem closure_Closed_cs (σ : List Blk) (c : Option Nat) (n : Nat) (g : Nat → Rule) (k : Int) (m : Dating) (d : Int) (hn : n < 1000000000) : CSF Tryz.prog 103 [.d (SL c 6 Rule.enc n g), .d (I k), .agg (m.enc.map .d), .d (I d)] σ (.tup [.agg ((closedR n g k m d).1.enc.map .d), .d (B (closedR n g k m d).2)]) := by
  refine CSF.of_body T.en103 Tryz.func103 rfl (by simp [Tryz.ntmps103]) (by simp [go_sem]) fun hwf => ?_
  refine awp_reg_seq fun K hK => ?_
  simp [go_sem, Tryz.ntmps103]
  repeat refine ⟨by omega, ?_⟩
  refine hK _ ?_; clear hK K
  refine awp_reg_seq fun K hK => ?_
  simp [go_sem]
  repeat refine ⟨by omega, ?_⟩
  refine CSk.mk (closure_InForce_cs _ c n g k d hn) ?_
  simp [go_sem]
  repeat refine ⟨by omega, ?_⟩
  refine hK _ ?_; clear hK K
  refine awp_seq ?_
  refine awp_reg_seq fun K hK => ?_
  simp [go_sem]
  repeat refine ⟨by omega, ?_⟩
  refine CSm.mk (dating_Check_cs _ m) ?_
  simp [go_sem]
  repeat refine ⟨by omega, ?_⟩
  refine CSm.mk (closure_until_cs _ (inForceR n g k d).1 m) ?_
  simp [go_sem]
  repeat refine ⟨by omega, ?_⟩
  refine hK _ ?_; clear hK K
  refine awp_forget [6, 8, 10, 32] (by simp only [restr, List.contains_cons, List.contains_nil, Nat.reduceBEq, Bool.or_false, Bool.or_true, Bool.true_or, Bool.false_or, if_true, if_false, Bool.false_eq_true]; rfl) ?_
  refine awp_cond rfl (fun c0 => ?_) (fun c0 => ?_)
  · have d0 := c0; try simp at d0
    have hz : closedR n g k m d = (Ground.zero, false) := by unfold closedR; rw [if_pos (by rcases d0 with (h | h) | h <;> simp [h])]
    refine awp_reg_seq fun K hK => ?_
    simp [go_sem, c0, d0]
    repeat refine ⟨by omega, ?_⟩
    refine hK _ ?_; clear hK K
    refine awp_ret ?_
    rw [hz]; simp [go_sem, Tryz.results103, Ground.zero]
  · have d0 := c0; try simp at d0
    have hz : closedR n g k m d = (⟨1, (inForceR n g k d).1.ID, 0, lastF (inForceR n g k d).1 m + 1⟩, true) := by unfold closedR; rw [if_neg (by simp [d0])]
    refine awp_skip ?_
    refine awp_draw_seq 6 T.mixed (by kernel_rfl) fun K hK => ?_
    simp [go_sem, c0, d0]
    repeat refine ⟨by omega, ?_⟩
    refine CSg.mk (closure_until_cs _ (inForceR n g k d).1 m) ?_
    simp [go_sem, c0, d0]
    repeat refine ⟨by omega, ?_⟩
    refine hK _ ?_; clear hK K
    refine awp_ret ?_
    rw [hz]; simp [go_sem, Tryz.results103]

theorem cloneRule_cs (σ : List Blk) (c : Option Nat) (n : Nat) (g : Nat → Rule) (hn : n < 1000000000) : CSF Tryz.prog 54 [.d (SL c 6 Rule.enc n g)] σ (.d (SL none 6 Rule.enc n g)) := by
  refine CSF.of_body T.en54 Tryz.func54 rfl (by simp [Tryz.ntmps54]) (by simp [go_sem]) fun hwf => ?_
  refine awp_reg_seq fun K hK => ?_
  simp [go_sem, Tryz.ntmps54]
  repeat refine ⟨by omega, ?_⟩
  refine hK _ ?_; clear hK K
  refine awp_seq ?_
  refine awp_reg_seq fun K hK => ?_
  simp [go_sem, -Bool.forall_bool]
  intro b1 hb1
  repeat refine ⟨by omega, ?_⟩
  refine hK _ ?_; clear hK K
  refine awp_cond rfl (fun c0 => ?_) (fun c0 => ?_)
  · have d0 := c0; try simp at d0
    refine awp_reg_seq fun K hK => ?_
    simp [go_sem, c0, d0]
    repeat refine ⟨by omega, ?_⟩
    refine hK _ ?_; clear hK K
    refine awp_ret ?_
    have := hb1 c0
    simp [go_sem, Tryz.results54, this]
  · have d0 := c0; try simp at d0
    refine awp_skip ?_
    refine awp_reg_seq fun K hK => ?_
    simp [go_sem, c0, d0]
    repeat refine ⟨by omega, ?_⟩
    refine hK _ ?_; clear hK K
    refine awp_freeze (σ.length) (by simp [go_sem]; exact ⟨rfl, rfl, rfl⟩) (by simp [go_sem]; rfl) (by simp [go_sem, hwf.frz, hwf.frz0]; rfl) ?_
    refine awp_ret ?_
    simp [go_sem, Tryz.results54, c0, d0] <;> omega

theorem cloneRuleM_cs (σ : List Blk) (c : Option Nat) (n : Nat) (g : Nat → Rule) (hn : n < 1000000000) : CS Tryz.prog 54 [.d (SL c 6 Rule.enc n g)] σ (fun r σ' X => r = .ms σ.length 6 0 n ∧ σ' = σ ++ [.arr 6 n fun i => Rule.enc (g i)] ∧ X = []) := by
  refine CS.of_bodyW T.en54 Tryz.func54 rfl (by simp [Tryz.ntmps54]) fun hwf => ?_
  refine awp_reg_seq fun K hK => ?_
  simp [go_sem, Tryz.ntmps54]
  repeat refine ⟨by omega, ?_⟩
  refine hK _ ?_; clear hK K
  refine awp_seq ?_
  refine awp_reg_seq fun K hK => ?_
  simp [go_sem, -Bool.forall_bool]
  intro b1 hb1
  repeat refine ⟨by omega, ?_⟩
  refine hK _ ?_; clear hK K
  refine awp_cond rfl (fun c0 => ?_) (fun c0 => ?_)
  · have d0 := c0; try simp at d0
    refine awp_reg_seq fun K hK => ?_
    simp [go_sem, c0, d0]
    repeat refine ⟨by omega, ?_⟩
    refine hK _ ?_; clear hK K
    refine awp_thawT 2 6 (fun i => Rule.enc (g i)) (by simp [go_sem]) (by simp [go_sem]; rfl) ?_
    refine awp_ret ?_
    obtain rfl := hb1 c0
    simp [go_sem, Tryz.results54]
  · have d0 := c0; try simp at d0
    refine awp_skip ?_
    refine awp_reg_seq fun K hK => ?_
    simp [go_sem, c0, d0]
    repeat refine ⟨by omega, ?_⟩
    refine hK _ ?_; clear hK K
    refine awp_ret ?_
    simp [go_sem, Tryz.results54, c0, d0] <;> omega

def endR (n : Nat) (g : Nat → Rule) (id d : Int) : (Nat × (Nat → Rule)) × Int :=
  if check n g ≠ 0 then ((0, g), 1) else if idxFrom (fun r => r.ID == id) (lst n g) 0 < 0 then ((0, g), 7)
  else if d ≤ (g (idxFrom (fun r => r.ID == id) (lst n g) 0).toNat).In.From ∨ (g (idxFrom (fun r => r.ID == id) (lst n g) 0).toNat).In.Until < d then ((0, g), 2)
  else ((n, fun q => if q = (idxFrom (fun r => r.ID == id) (lst n g) 0).toNat then { g q with In := ⟨(g q).In.From, d⟩ } else g q), 0)
theorem idx_lt' {α : Type} (p : α → Bool) (n : Nat) (g : Nat → α) : idxFrom p (lst n g) 0 < n := by
  rcases idx_spec p (lst n g) 0 with ⟨h, _⟩ | ⟨q, h1, h2, _⟩
  · omega
  · rw [lst_length] at h1; omega
def askedR (n : Nat) (g : Nat → Rule) (k : Int) (m : Dating) (d : Int) : Int := if check n g ≠ 0 ∨ datChk m ≠ 0 then 1 else if k < 1 ∨ 999 < k ∨ d < 0 ∨ 1048575 < d then 2 else 0
theorem closure_asked_cs (σ : List Blk) (c : Option Nat) (n : Nat) (g : Nat → Rule) (k : Int) (m : Dating) (d : Int) (hn : n < 1000000000) : CSF Tryz.prog 137 [.d (SL c 6 Rule.enc n g), .d (I k), .agg (m.enc.map .d), .d (I d)] σ (.d (I (askedR n g k m d))) := by
  refine CSF.of_body T.en137 Tryz.func137 rfl (by simp [Tryz.ntmps137]) (by simp [go_sem]) fun hwf => ?_
  refine awp_reg_seq fun K hK => ?_
  simp [go_sem, Tryz.ntmps137]
  repeat refine ⟨by omega, ?_⟩
  refine hK _ ?_; clear hK K
  refine awp_seq ?_
  refine awp_block ?_
  refine awp_reg_seq fun K hK => ?_
  simp [go_sem]
  repeat refine ⟨by omega, ?_⟩
  refine CSk.mk (closure_Check_cs _ c n g hn) ?_
  simp [go_sem]
  repeat refine ⟨by omega, ?_⟩
  refine CSm.mk (dating_Check_cs _ m) ?_
  simp [go_sem]
  repeat refine ⟨by omega, ?_⟩
  refine hK _ ?_; clear hK K
  refine awp_forget [1, 3, 9] (by simp only [restr, List.contains_cons, List.contains_nil, Nat.reduceBEq, Bool.or_false, Bool.or_true, Bool.true_or, Bool.false_or, if_true, if_false, Bool.false_eq_true]; rfl) ?_
  refine awp_cond rfl (fun c0 => ?_) (fun c0 => ?_)
  · have d0 := c0; try simp at d0
    refine awp_reg_seq fun K hK => ?_
    simp [go_sem, c0, d0]
    repeat refine ⟨by omega, ?_⟩
    refine hK _ ?_; clear hK K
    refine awp_ret ?_
    have hz : askedR n g k m d = 1 := by unfold askedR; rw [if_pos (by omega)]
    rw [hz]; simp [go_sem, Tryz.results137]
  · have d0 := c0; try simp at d0
    refine awp_reg_seq fun K hK => ?_
    simp [go_sem, c0, d0]
    repeat refine ⟨by omega, ?_⟩
    refine hK _ ?_; clear hK K
    refine awp_forget [18] (by simp only [restr, List.contains_cons, List.contains_nil, Nat.reduceBEq, Bool.or_false, Bool.or_true, Bool.true_or, Bool.false_or, if_true, if_false, Bool.false_eq_true]; rfl) ?_
    refine awp_cond rfl (fun c1 => ?_) (fun c1 => ?_)
    · have d1 := c1; try simp at d1
      refine awp_reg_seq fun K hK => ?_
      simp [go_sem, c0, d0, c1, d1]
      repeat refine ⟨by omega, ?_⟩
      refine hK _ ?_; clear hK K
      refine awp_ret ?_
      have hz : askedR n g k m d = 2 := by unfold askedR; rw [if_neg (by omega), if_pos (by omega)]
      rw [hz]; simp [go_sem, Tryz.results137]
    · have d1 := c1; try simp at d1
      refine awp_skip ?_
      refine awp_reg_seq fun K hK => ?_
      simp [go_sem, c0, d0, c1, d1]
      repeat refine ⟨by omega, ?_⟩
      refine hK _ ?_; clear hK K
      refine awp_ret ?_
      have hz : askedR n g k m d = 0 := by unfold askedR; rw [if_neg (by omega), if_neg (by omega)]
      rw [hz]; simp [go_sem, Tryz.results137]

end Go.Proofs.YtkochmppmpmddaaGreat

/-! Bf -/
namespace Go.Proofs.YtkochmppmpmddaaGreat
open Go.Abs Go.Arch
set_option linter.unusedVariables false
set_option linter.unusedSimpArgs false
set_option maxRecDepth 100000
set_option maxHeartbeats 400000

theorem chkF_zero {g : Nat → Rule} : ∀ {k i : Nat}, chkF g i k = 0 → ∀ q, i ≤ q → q < i + k → formed (g q) = true ∧ (0 < q → (g (q - 1)).ID < (g q).ID) ∧ (lst q g).any (clash (g q)) = false
  | 0, i, h, q, h1, h2 => by omega
  | k + 1, i, h, q, h1, h2 => by
    rw [chkF] at h
    split at h
    · omega
    · rename_i hf
      split at h
      · omega
      · rename_i ho
        split at h
        · omega
        · rename_i hc
          by_cases e : q = i
          · subst e
            refine ⟨by simpa using hf, fun hq => ?_, by simpa using hc⟩
            simp [hq] at ho; omega
          · exact chkF_zero h q (by omega) (by omega)
theorem check_zero {n : Nat} {g : Nat → Rule} (h : check n g = 0) : n ≤ 64 ∧ ∀ q, q < n → formed (g q) = true ∧ (0 < q → (g (q - 1)).ID < (g q).ID) ∧ (lst q g).any (clash (g q)) = false := by
  unfold check at h
  split at h
  · omega
  · exact ⟨by omega, fun q hq => chkF_zero h q (by omega) (by omega)⟩
theorem inForce_formed {n : Nat} {g : Nat → Rule} {k d : Int} (h : (inForceR n g k d).2 = true) : formed (inForceR n g k d).1 = true := by
  unfold inForceR at h ⊢
  split at h
  · simp at h
  · rename_i hc
    rw [if_neg hc]
    have hlt := inForceI_lt n g k d
    have h0 : check n g = 0 := by omega
    exact ((check_zero h0).2 _ (by omega)).1
theorem any_drop {α : Type} {p : α → Bool} {l : List α} {q : Nat} (h : (l.drop q).any p = true) : l.any p = true := by
  rw [List.any_eq_true] at h ⊢
  obtain ⟨x, h1, h2⟩ := h
  exact ⟨x, List.mem_of_mem_drop h1, h2⟩


theorem ref31_Few_cs (σ : List Blk) (c : Option Nat) (n : Nat) (g : Nat → Rule) : CSF Tryz.prog 38 [.d (SL c 6 Rule.enc n g)] σ (.d (B (decide ((n : Int) ≤ 20)))) := by
  refine CSF.of_body T.en38 Tryz.func38 rfl (by simp [Tryz.ntmps38]) (by simp [go_sem]) fun hwf => ?_
  refine awp_reg_seq fun K hK => ?_
  simp [go_sem, Tryz.ntmps38]
  repeat refine ⟨by omega, ?_⟩
  refine hK _ ?_; clear hK K
  refine awp_reg_seq fun K hK => ?_
  simp [go_sem]
  repeat refine ⟨by omega, ?_⟩
  refine hK _ ?_; clear hK K
  refine awp_ret ?_
  simp [go_sem, Tryz.results38] <;> omega

theorem ref31_Spanned_cs (σ : List Blk) (s : Span) : CSF Tryz.prog 120 [.agg (s.enc.map .d)] σ (.d (B (spanOk s))) := by
  refine CSF.of_body T.en120 Tryz.func120 rfl (by simp [Tryz.ntmps120]) (by simp [go_sem]) fun hwf => ?_
  refine awp_reg_seq fun K hK => ?_
  simp [go_sem, Tryz.ntmps120]
  repeat refine ⟨by omega, ?_⟩
  refine hK _ ?_; clear hK K
  refine awp_reg_seq fun K hK => ?_
  simp [go_sem]
  repeat refine ⟨by omega, ?_⟩
  refine hK _ ?_; clear hK K
  refine awp_ret ?_
  simp [go_sem, Tryz.results120, spanOk] <;> omega

theorem ref31_Form_cs (σ : List Blk) (r : Rule) : CSF Tryz.prog 87 [.agg (r.enc.map .d)] σ (.d (B (formed r))) := by
  refine CSF.of_body T.en87 Tryz.func87 rfl (by simp [Tryz.ntmps87]) (by simp [go_sem]) fun hwf => ?_
  refine awp_reg_seq fun K hK => ?_
  simp [go_sem, Tryz.ntmps87]
  repeat refine ⟨by omega, ?_⟩
  refine hK _ ?_; clear hK K
  refine awp_reg_seq fun K hK => ?_
  simp [go_sem]
  repeat refine ⟨by omega, ?_⟩
  refine CSm.mk (ref31_Spanned_cs _ r.In) ?_
  simp [go_sem]
  repeat refine ⟨by omega, ?_⟩
  refine hK _ ?_; clear hK K
  refine awp_ret ?_
  simp [go_sem, Tryz.results87, formed] <;> omega

def meetB (a b : Span) : Bool := decide (a.From < b.Until) && decide (b.From < a.Until)
theorem ref31_meet_cs (σ : List Blk) (a b : Span) : CSF Tryz.prog 88 [.agg (a.enc.map .d), .agg (b.enc.map .d)] σ (.d (B (meetB a b))) := by
  refine CSF.of_body T.en88 Tryz.func88 rfl (by simp [Tryz.ntmps88]) (by simp [go_sem]) fun hwf => ?_
  refine awp_reg_seq fun K hK => ?_
  simp [go_sem, Tryz.ntmps88]
  repeat refine ⟨by omega, ?_⟩
  refine hK _ ?_; clear hK K
  refine awp_reg_seq fun K hK => ?_
  simp [go_sem]
  repeat refine ⟨by omega, ?_⟩
  refine hK _ ?_; clear hK K
  refine awp_ret ?_
  simp [go_sem, Tryz.results88, meetB] <;> omega

theorem ref31_Check_cs (σ : List Blk) (c : Option Nat) (n : Nat) (g : Nat → Rule) (hn : n < 1000000000) : CSF Tryz.prog 57 [.d (SL c 6 Rule.enc n g)] σ (.d (I (check n g))) := by
  refine CSF.of_body T.en57 Tryz.func57 rfl (by simp [Tryz.ntmps57]) (by simp [go_sem]) fun hwf => ?_
  refine awp_reg_seq fun K hK => ?_
  simp [go_sem, Tryz.ntmps57]
  repeat refine ⟨by omega, ?_⟩
  refine hK _ ?_; clear hK K
  refine awp_seq ?_
  refine awp_reg_seq fun K hK => ?_
  simp [go_sem]
  repeat refine ⟨by omega, ?_⟩
  refine hK _ ?_; clear hK K
  refine awp_forget [0, 9] (by simp only [restr, List.contains_cons, List.contains_nil, Nat.reduceBEq, Bool.or_false, Bool.or_true, Bool.true_or, Bool.false_or, if_true, if_false, Bool.false_eq_true]; rfl) ?_
  refine awp_cond rfl (fun c0 => ?_) (fun c0 => ?_)
  · have d0 := c0; try simp at d0
    refine awp_reg_seq fun K hK => ?_
    simp [go_sem, c0, d0]
    repeat refine ⟨by omega, ?_⟩
    refine hK _ ?_; clear hK K
    refine awp_ret ?_
    simp [go_sem, Tryz.results57, check, c0, d0] <;> omega
  · have d0 := c0; try simp at d0
    refine awp_skip ?_
    refine awp_seq ?_
    refine awp_reg_seq fun K hK => ?_
    simp [go_sem, c0, d0]
    repeat refine ⟨by omega, ?_⟩
    refine hK _ ?_; clear hK K
    refine awp_block ?_
    refine awp_forget [0, 10, 11, 12] (by simp [go_sem, restr]; rfl) ?_
    refine awp_loopU (α := Nat) (fun i => [(12, .d (I i))]) (fun i => _) (fun i => i ≤ n ∧ chkF g 0 n = chkF g i (n - i)) (fun i => n - i) 0 (by simp [go_sem]) rfl (by simp) ?_
    rintro i ⟨hi, hx⟩
    refine awp_reg_seq fun K hK => ?_
    simp [go_sem, c0, d0, hi, wrap_pred (i := i) (by omega)]
    repeat refine ⟨by omega, ?_⟩
    refine hK _ ?_; clear hK K
    refine awp_seq ?_
    refine awp_forget [0, 10, 11, 12, 13] (by simp only [restr, List.contains_cons, List.contains_nil, Nat.reduceBEq, Bool.or_false, Bool.or_true, Bool.true_or, Bool.false_or, if_true, if_false, Bool.false_eq_true]; rfl) ?_
    refine awp_cond rfl (fun c1 => ?_) (fun c1 => ?_)
    · have d1 := c1; try simp at d1
      obtain ⟨k, hk⟩ : ∃ k, n - i = k + 1 := ⟨n - i - 1, by omega⟩
      have hk' : n - (i + 1) = k := by omega
      rw [hk, chkF] at hx
      refine awp_skip ?_
      refine awp_seq ?_
      refine awp_block ?_
      refine awp_reg_seq fun K hK => ?_
      simp [go_sem, c0, d0, hi, wrap_pred (i := i) (by omega), c1, d1]
      repeat refine ⟨by omega, ?_⟩
      refine hK _ ?_; clear hK K
      refine awp_seq ?_
      refine awp_reg_seq fun K hK => ?_
      simp [go_sem, c0, d0, hi, wrap_pred (i := i) (by omega), c1, d1]
      repeat refine ⟨by omega, ?_⟩
      refine CSk.mk (ref31_Form_cs _ (g i)) ?_
      simp [go_sem, c0, d0, hi, wrap_pred (i := i) (by omega), c1, d1]
      repeat refine ⟨by omega, ?_⟩
      refine hK _ ?_; clear hK K
      refine awp_forget [0, 3, 4, 10, 11, 12, 19] (by simp only [restr, List.contains_cons, List.contains_nil, Nat.reduceBEq, Bool.or_false, Bool.or_true, Bool.true_or, Bool.false_or, if_true, if_false, Bool.false_eq_true]; rfl) ?_
      refine awp_cond rfl (fun c2 => ?_) (fun c2 => ?_)
      · have d2 := c2; try simp at d2
        refine awp_reg_seq fun K hK => ?_
        simp [go_sem, c0, d0, hi, wrap_pred (i := i) (by omega), c1, d1, c2, d2]
        repeat refine ⟨by omega, ?_⟩
        refine hK _ ?_; clear hK K
        refine awp_ret ?_
        simp [go_sem, Tryz.results57, check, hx, c0, d0, hi, wrap_pred (i := i) (by omega), c1, d1, c2, d2] <;> omega
      · have d2 := c2; try simp at d2
        refine awp_skip ?_
        refine awp_seq ?_
        refine awp_draw_seq 13 T.mixed (by kernel_rfl) fun K hK => ?_
        simp [go_sem, c0, d0, hi, wrap_pred (i := i) (by omega), c1, d1, c2, d2]
        try simp (disch := omega) only [wrapI]
        repeat refine ⟨by omega, ?_⟩
        refine hK _ ?_; clear hK K
        refine awp_forget [0, 3, 4, 10, 11, 12, 32] (by simp only [restr, List.contains_cons, List.contains_nil, Nat.reduceBEq, Bool.or_false, Bool.or_true, Bool.true_or, Bool.false_or, if_true, if_false, Bool.false_eq_true]; rfl) ?_
        refine awp_cond rfl (fun c3 => ?_) (fun c3 => ?_)
        · have d3 := c3; try simp at d3
          refine awp_reg_seq fun K hK => ?_
          simp [go_sem, c0, d0, hi, wrap_pred (i := i) (by omega), c1, d1, c2, d2, c3, d3]
          repeat refine ⟨by omega, ?_⟩
          refine hK _ ?_; clear hK K
          refine awp_ret ?_
          simp [go_sem, Tryz.results57, check, hx, c0, d0, hi, wrap_pred (i := i) (by omega), c1, d1, c2, d2, c3, d3] <;> omega
        · have d3 := c3; try simp at d3
          refine awp_skip ?_
          refine awp_reg_seq fun K hK => ?_
          simp [go_sem, c0, d0, hi, wrap_pred (i := i) (by omega), c1, d1, c2, d2, c3, d3]
          repeat refine ⟨by omega, ?_⟩
          refine hK _ ?_; clear hK K
          refine awp_block ?_
          refine awp_forget [0, 4, 10, 11, 12, 35, 36, 37] (by simp [go_sem, restr]; rfl) ?_
          refine awp_loopU (α := Nat) (fun q => [(37, .d (I q))]) (fun q => _) (fun q => q ≤ i ∧ (lst i g).any (clash (g i)) = ((lst i g).drop q).any (clash (g i))) (fun q => i - q) 0 (by simp [go_sem]) rfl (by simp) ?_
          rintro q ⟨hq, hy⟩
          refine awp_reg_seq fun K hK => ?_
          simp [go_sem, c0, d0, hi, wrap_pred (i := i) (by omega), c1, d1, c2, d2, c3, d3, hq]
          repeat refine ⟨by omega, ?_⟩
          refine hK _ ?_; clear hK K
          refine awp_seq ?_
          refine awp_forget [0, 4, 10, 11, 12, 35, 36, 37, 38] (by simp only [restr, List.contains_cons, List.contains_nil, Nat.reduceBEq, Bool.or_false, Bool.or_true, Bool.true_or, Bool.false_or, if_true, if_false, Bool.false_eq_true]; rfl) ?_
          refine awp_cond rfl (fun c4 => ?_) (fun c4 => ?_)
          · have d4 := c4; try simp at d4
            rw [drop_lst d4, List.any_cons] at hy
            refine awp_skip ?_
            refine awp_seq ?_
            refine awp_block ?_
            refine awp_reg_seq fun K hK => ?_
            simp [go_sem, c0, d0, hi, wrap_pred (i := i) (by omega), c1, d1, c2, d2, c3, d3, hq, c4, d4]
            repeat refine ⟨by omega, ?_⟩
            refine hK _ ?_; clear hK K
            refine awp_reg_seq fun K hK => ?_
            simp [go_sem, c0, d0, hi, wrap_pred (i := i) (by omega), c1, d1, c2, d2, c3, d3, hq, c4, d4]
            repeat refine ⟨by omega, ?_⟩
            refine CSm.mk (ref31_meet_cs _ (g q).In (g i).In) ?_
            simp [go_sem, c0, d0, hi, wrap_pred (i := i) (by omega), c1, d1, c2, d2, c3, d3, hq, c4, d4]
            repeat refine ⟨by omega, ?_⟩
            refine hK _ ?_; clear hK K
            refine awp_forget [0, 4, 10, 11, 12, 35, 36, 37, 52] (by simp only [restr, List.contains_cons, List.contains_nil, Nat.reduceBEq, Bool.or_false, Bool.or_true, Bool.true_or, Bool.false_or, if_true, if_false, Bool.false_eq_true]; rfl) ?_
            refine awp_cond rfl (fun c5 => ?_) (fun c5 => ?_)
            · have d5 := c5; try simp at d5
              have hany : (lst i g).any (clash (g i)) = true := by rw [hy]; simp only [clash, Bool.and_assoc]; rw [show ((g q).Class == (g i).Class && (decide ((g q).In.From < (g i).In.Until) && decide ((g i).In.From < (g q).In.Until))) = true from c5]; rfl
              refine awp_reg_seq fun K hK => ?_
              simp [go_sem, c0, d0, hi, wrap_pred (i := i) (by omega), c1, d1, c2, d2, c3, d3, hq, c4, d4, c5, d5, hany]
              repeat refine ⟨by omega, ?_⟩
              refine hK _ ?_; clear hK K
              refine awp_ret ?_
              simp [go_sem, Tryz.results57, check, hx, c0, d0, hi, wrap_pred (i := i) (by omega), c1, d1, c2, d2, c3, d3, hq, c4, d4, c5, d5, hany] <;> omega
            · have d5 := c5; try simp at d5
              refine awp_skip ?_
              refine awp_reg_end fun K hK => ?_
              simp [go_sem, c0, d0, hi, wrap_pred (i := i) (by omega), c1, d1, c2, d2, c3, d3, hq, c4, d4, c5, d5]
              try simp (disch := omega) only [wrapI]
              repeat refine ⟨by omega, ?_⟩
              refine hK _ ?_; clear hK K
              refine ⟨q + 1, back_of' (by simp) (.refl _) (by (simp [go_sem, wrap_succ (i := q) (by omega), c0, d0, hi, wrap_pred (i := i) (by omega), c1, d1, c2, d2, c3, d3, hq, c4, d4, c5, d5] <;> omega)), ⟨by omega, by rw [hy, show clash (g i) (g q) = false by unfold clash; rw [Bool.and_assoc]; exact c5]; rfl⟩, by omega⟩
          · have d4 := c4; try simp at d4
            have hany : (lst i g).any (clash (g i)) = false := by rw [hy, drop_all (by omega)]; rfl
            refine awp_exit ?_
            refine awp_reg_end fun K hK => ?_
            simp [go_sem, c0, d0, hi, wrap_pred (i := i) (by omega), c1, d1, c2, d2, c3, d3, hq, c4, d4]
            try simp (disch := omega) only [wrapI]
            repeat refine ⟨by omega, ?_⟩
            refine hK _ ?_; clear hK K
            refine ⟨i + 1, back_of' (by simp) (.refl _) (by (simp [go_sem, wrap_succ (i := i) (by omega), c0, d0, hi, wrap_pred (i := i) (by omega), c1, d1, c2, d2, c3, d3, hq, c4, d4] <;> omega)), ⟨by omega, by rw [hx, hk']; simp [d2, c3, hany]⟩, by omega⟩
    · have d1 := c1; try simp at d1
      obtain rfl : i = n := by omega
      rw [Nat.sub_self, chkF] at hx
      refine awp_exit ?_
      refine awp_reg_seq fun K hK => ?_
      simp [go_sem, c0, d0, hi, wrap_pred (i := i) (by omega), c1, d1]
      repeat refine ⟨by omega, ?_⟩
      refine hK _ ?_; clear hK K
      refine awp_ret ?_
      simp [go_sem, Tryz.results57, check, hx, c0, d0, hi, wrap_pred (i := i) (by omega), c1, d1] <;> omega

theorem ref31_InForce_cs (σ : List Blk) (c : Option Nat) (n : Nat) (g : Nat → Rule) (k d : Int) (hn : n < 1000000000) : CSF Tryz.prog 128 [.d (SL c 6 Rule.enc n g), .d (I k), .d (I d)] σ (.tup [.agg ((inForceR n g k d).1.enc.map .d), .d (B (inForceR n g k d).2)]) := by
  refine CSF.of_body T.en128 Tryz.func128 rfl (by simp [Tryz.ntmps128]) (by simp [go_sem]) fun hwf => ?_
  refine awp_reg_seq fun K hK => ?_
  simp [go_sem, Tryz.ntmps128]
  repeat refine ⟨by omega, ?_⟩
  refine hK _ ?_; clear hK K
  refine awp_seq ?_
  refine awp_reg_seq fun K hK => ?_
  simp [go_sem]
  repeat refine ⟨by omega, ?_⟩
  refine CSk.mk (ref31_Check_cs _ c n g hn) ?_
  simp [go_sem]
  repeat refine ⟨by omega, ?_⟩
  refine hK _ ?_; clear hK K
  refine awp_forget [0, 1, 2, 6, 12] (by simp only [restr, List.contains_cons, List.contains_nil, Nat.reduceBEq, Bool.or_false, Bool.or_true, Bool.true_or, Bool.false_or, if_true, if_false, Bool.false_eq_true]; rfl) ?_
  refine awp_cond rfl (fun c0 => ?_) (fun c0 => ?_)
  · have d0 := c0; try simp at d0
    have hz : inForceR n g k d = (Rule.zero, false) := by unfold inForceR; rw [if_pos (.inr d0)]
    refine awp_reg_seq fun K hK => ?_
    simp [go_sem, c0, d0]
    repeat refine ⟨by omega, ?_⟩
    refine hK _ ?_; clear hK K
    refine awp_ret ?_
    rw [hz]; simp [go_sem, Tryz.results128, Rule.zero]
  · have d0 := c0; try simp at d0
    refine awp_skip ?_
    refine awp_seq ?_
    refine awp_reg_seq fun K hK => ?_
    simp [go_sem, c0, d0]
    repeat refine ⟨by omega, ?_⟩
    refine hK _ ?_; clear hK K
    refine awp_block ?_
    refine awp_forget [1, 2, 6, 14, 15, 16] (by simp [go_sem, restr]; rfl) ?_
    refine awp_loopU (α := Nat) (fun i => [(16, .d (I i))]) (fun i => _) (fun i => i ≤ n ∧ inForceI n g k d = idxFrom (inB k d) ((lst n g).drop i) i) (fun i => n - i) 0 (by simp [go_sem]) rfl (⟨by omega, rfl⟩) ?_
    rintro i ⟨hi, hx⟩
    refine awp_reg_seq fun K hK => ?_
    simp [go_sem, c0, d0]
    repeat refine ⟨by omega, ?_⟩
    refine hK _ ?_; clear hK K
    refine awp_seq ?_
    refine awp_forget [1, 2, 6, 14, 15, 16, 17] (by simp only [restr, List.contains_cons, List.contains_nil, Nat.reduceBEq, Bool.or_false, Bool.or_true, Bool.true_or, Bool.false_or, if_true, if_false, Bool.false_eq_true]; rfl) ?_
    refine awp_cond rfl (fun c1 => ?_) (fun c1 => ?_)
    · have d1 := c1; try simp at d1
      rw [drop_lst d1, idxFrom] at hx
      refine awp_skip ?_
      refine awp_seq ?_
      refine awp_block ?_
      refine awp_reg_seq fun K hK => ?_
      simp [go_sem, c0, d0, c1, d1]
      repeat refine ⟨by omega, ?_⟩
      refine hK _ ?_; clear hK K
      refine awp_reg_seq fun K hK => ?_
      simp [go_sem, c0, d0, c1, d1]
      repeat refine ⟨by omega, ?_⟩
      refine hK _ ?_; clear hK K
      refine awp_forget [1, 2, 6, 9, 14, 15, 16, 37] (by simp only [restr, List.contains_cons, List.contains_nil, Nat.reduceBEq, Bool.or_false, Bool.or_true, Bool.true_or, Bool.false_or, if_true, if_false, Bool.false_eq_true]; rfl) ?_
      refine awp_cond rfl (fun c2 => ?_) (fun c2 => ?_)
      · have d2 := c2; try simp at d2
        rw [if_pos (show inB k d (g i) = true from c2)] at hx
        have hz : inForceR n g k d = (g i, true) := by unfold inForceR; rw [if_neg (by omega), hx]; rfl
        refine awp_reg_seq fun K hK => ?_
        simp [go_sem, c0, d0, c1, d1, c2, d2]
        repeat refine ⟨by omega, ?_⟩
        refine hK _ ?_; clear hK K
        refine awp_ret ?_
        rw [hz]; simp [go_sem, Tryz.results128, d2]
      · have d2 := c2; try simp at d2
        refine awp_skip ?_
        refine awp_reg_end fun K hK => ?_
        simp [go_sem, c0, d0, c1, d1, c2, d2]
        try simp (disch := omega) only [wrapI]
        repeat refine ⟨by omega, ?_⟩
        refine hK _ ?_; clear hK K
        refine ⟨i + 1, back_of' (by simp) (.refl _) (by (simp [go_sem, wrap_succ (i := i) (by omega), c0, d0, c1, d1, c2, d2] <;> omega)), ⟨by omega, by rw [hx, if_neg (by rw [show inB k d (g i) = false from c2]; simp)]⟩, by omega⟩
    · have d1 := c1; try simp at d1
      rw [drop_all d1, idxFrom] at hx
      have hz : inForceR n g k d = (Rule.zero, false) := by unfold inForceR; rw [if_pos (by omega)]
      refine awp_exit ?_
      refine awp_reg_seq fun K hK => ?_
      simp [go_sem, c0, d0, c1, d1]
      repeat refine ⟨by omega, ?_⟩
      refine hK _ ?_; clear hK K
      refine awp_ret ?_
      rw [hz]; simp [go_sem, Tryz.results128, Rule.zero]

theorem ref31_Until_cs (σ : List Blk) (r : Rule) (m : Dating) : CSF Tryz.prog 129 [.agg (r.enc.map .d), .agg (m.enc.map .d)] σ (.tup [.d (I (untilR r m).1), .d (I (untilR r m).2)]) := by
  refine CSF.of_body T.en129 Tryz.func129 rfl (by simp [Tryz.ntmps129]) (by simp [go_sem]) fun hwf => ?_
  refine awp_reg_seq fun K hK => ?_
  simp [go_sem, Tryz.ntmps129]
  repeat refine ⟨by omega, ?_⟩
  refine hK _ ?_; clear hK K
  refine awp_seq ?_
  refine awp_reg_seq fun K hK => ?_
  simp [go_sem]
  repeat refine ⟨by omega, ?_⟩
  refine CSk.mk (ref31_Form_cs _ r) ?_
  simp [go_sem]
  repeat refine ⟨by omega, ?_⟩
  refine hK _ ?_; clear hK K
  refine awp_forget [2, 3, 10] (by simp only [restr, List.contains_cons, List.contains_nil, Nat.reduceBEq, Bool.or_false, Bool.or_true, Bool.true_or, Bool.false_or, if_true, if_false, Bool.false_eq_true]; rfl) ?_
  refine awp_cond rfl (fun c0 => ?_) (fun c0 => ?_)
  · have d0 := c0; try simp at d0
    have hz : untilR r m = (0, 2) := by unfold untilR; rw [if_pos d0]
    refine awp_reg_seq fun K hK => ?_
    simp [go_sem, c0, d0]
    repeat refine ⟨by omega, ?_⟩
    refine hK _ ?_; clear hK K
    refine awp_ret ?_
    rw [hz]; simp [go_sem, Tryz.results129]
  · have d0 := c0; try simp at d0
    refine awp_skip ?_
    refine awp_seq ?_
    refine awp_reg_seq fun K hK => ?_
    simp [go_sem, c0, d0]
    repeat refine ⟨by omega, ?_⟩
    refine CSk.mk (ref03_Check_cs _ m) ?_
    simp [go_sem, c0, d0]
    repeat refine ⟨by omega, ?_⟩
    refine hK _ ?_; clear hK K
    refine awp_forget [2, 3, 13] (by simp only [restr, List.contains_cons, List.contains_nil, Nat.reduceBEq, Bool.or_false, Bool.or_true, Bool.true_or, Bool.false_or, if_true, if_false, Bool.false_eq_true]; rfl) ?_
    refine awp_cond rfl (fun c1 => ?_) (fun c1 => ?_)
    · have d1 := c1; try simp at d1
      have hz : untilR r m = (0, 1) := by unfold untilR; rw [if_neg (by simp [d0]), if_pos d1]
      refine awp_reg_seq fun K hK => ?_
      simp [go_sem, c0, d0, c1, d1]
      repeat refine ⟨by omega, ?_⟩
      refine hK _ ?_; clear hK K
      refine awp_ret ?_
      rw [hz]; simp [go_sem, Tryz.results129]
    · have d1 := c1; try simp at d1
      have hz : untilR r m = (lastF r m + 1, 0) := by unfold untilR; rw [if_neg (by simp [d0]), if_neg (by simp [d1])]
      refine awp_skip ?_
      refine awp_reg_seq fun K hK => ?_
      simp [go_sem, c0, d0, c1, d1]
      repeat refine ⟨by omega, ?_⟩
      refine CSk.mk (ref02_Years_cs _ m.Last r.Years) ?_
      simp [go_sem, c0, d0, c1, d1]
      repeat refine ⟨by omega, ?_⟩
      refine hK _ ?_; clear hK K
      refine awp_seq ?_
      refine awp_reg_seq fun K hK => ?_
      simp [go_sem, c0, d0, c1, d1]
      repeat refine ⟨by omega, ?_⟩
      refine hK _ ?_; clear hK K
      refine awp_forget [6, 23] (by simp only [restr, List.contains_cons, List.contains_nil, Nat.reduceBEq, Bool.or_false, Bool.or_true, Bool.true_or, Bool.false_or, if_true, if_false, Bool.false_eq_true]; rfl) ?_
      refine awp_cond rfl (fun c2 => ?_) (fun c2 => ?_)
      · have d2 := c2; try simp at d2
        have hl : lastF r m = (yearEndR (yearsR m.Last r.Years).1).1 := by unfold lastF; rw [if_pos c2]
        have hb := lastF_bd r m
        rw [hl] at hb hz
        unfold isDay at hb
        refine awp_reg_end fun K hK => ?_
        simp [go_sem, c0, d0, c1, d1, c2, d2]
        repeat refine ⟨by omega, ?_⟩
        refine CSk.mk (ref02_YearEnd_cs _ (yearsR m.Last r.Years).1) ?_
        simp [go_sem, c0, d0, c1, d1, c2, d2]
        repeat refine ⟨by omega, ?_⟩
        refine hK _ ?_; clear hK K
        refine awp_reg_seq fun K hK => ?_
        simp [go_sem, c0, d0, c1, d1, c2, d2]
        try simp (disch := omega) only [wrapI]
        repeat refine ⟨by omega, ?_⟩
        refine hK _ ?_; clear hK K
        refine awp_ret ?_
        rw [hz]; simp [go_sem, Tryz.results129]
      · have d2 := c2; try simp at d2
        have hl : lastF r m = (yearsR m.Last r.Years).1 := by unfold lastF; rw [if_neg (by simp [c2])]
        have hb := lastF_bd r m
        rw [hl] at hb hz
        unfold isDay at hb
        refine awp_skip ?_
        refine awp_reg_seq fun K hK => ?_
        simp [go_sem, c0, d0, c1, d1, c2, d2]
        try simp (disch := omega) only [wrapI]
        repeat refine ⟨by omega, ?_⟩
        refine hK _ ?_; clear hK K
        refine awp_ret ?_
        rw [hz]; simp [go_sem, Tryz.results129]

theorem ref31_Closed_cs (σ : List Blk) (c : Option Nat) (n : Nat) (g : Nat → Rule) (k : Int) (m : Dating) (d : Int) (hn : n < 1000000000) : CSF Tryz.prog 97 [.d (SL c 6 Rule.enc n g), .d (I k), .agg (m.enc.map .d), .d (I d)] σ (.tup [.agg ((closedR n g k m d).1.enc.map .d), .d (B (closedR n g k m d).2)]) := by
  refine CSF.of_body T.en97 Tryz.func97 rfl (by simp [Tryz.ntmps97]) (by simp [go_sem]) fun hwf => ?_
  refine awp_reg_seq fun K hK => ?_
  simp [go_sem, Tryz.ntmps97]
  repeat refine ⟨by omega, ?_⟩
  refine hK _ ?_; clear hK K
  refine awp_reg_seq fun K hK => ?_
  simp [go_sem]
  repeat refine ⟨by omega, ?_⟩
  refine CSk.mk (ref31_InForce_cs _ c n g k d hn) ?_
  simp [go_sem]
  repeat refine ⟨by omega, ?_⟩
  refine hK _ ?_; clear hK K
  refine awp_seq ?_
  refine awp_reg_seq fun K hK => ?_
  simp [go_sem]
  repeat refine ⟨by omega, ?_⟩
  refine hK _ ?_; clear hK K
  refine awp_forget [3, 6, 8, 10, 22] (by simp only [restr, List.contains_cons, List.contains_nil, Nat.reduceBEq, Bool.or_false, Bool.or_true, Bool.true_or, Bool.false_or, if_true, if_false, Bool.false_eq_true]; rfl) ?_
  refine awp_cond rfl (fun c0 => ?_) (fun c0 => ?_)
  · have d0 := c0; try simp at d0
    have hz : closedR n g k m d = (Ground.zero, false) := by unfold closedR; rw [if_pos (.inl d0)]
    refine awp_reg_seq fun K hK => ?_
    simp [go_sem, c0, d0]
    repeat refine ⟨by omega, ?_⟩
    refine hK _ ?_; clear hK K
    refine awp_ret ?_
    rw [hz]; simp [go_sem, Tryz.results97, Ground.zero]
  · have d0 := c0; try simp at d0
    have hf := inForce_formed d0
    have hu : untilR (inForceR n g k d).1 m = if datChk m ≠ 0 then (0, 1) else (lastF (inForceR n g k d).1 m + 1, 0) := by unfold untilR; rw [if_neg (by simp [hf])]
    refine awp_skip ?_
    refine awp_reg_seq fun K hK => ?_
    simp [go_sem, c0, d0]
    repeat refine ⟨by omega, ?_⟩
    refine CSk.mk (ref31_Until_cs _ (inForceR n g k d).1 m) ?_
    simp [go_sem, c0, d0]
    repeat refine ⟨by omega, ?_⟩
    refine hK _ ?_; clear hK K
    refine awp_seq ?_
    refine awp_reg_seq fun K hK => ?_
    simp [go_sem, c0, d0]
    repeat refine ⟨by omega, ?_⟩
    refine hK _ ?_; clear hK K
    refine awp_forget [8, 10, 12, 36] (by simp only [restr, List.contains_cons, List.contains_nil, Nat.reduceBEq, Bool.or_false, Bool.or_true, Bool.true_or, Bool.false_or, if_true, if_false, Bool.false_eq_true]; rfl) ?_
    refine awp_cond rfl (fun c1 => ?_) (fun c1 => ?_)
    · have d1 := c1; try simp at d1
      have hz : closedR n g k m d = (Ground.zero, false) := by
        unfold closedR
        by_cases h : datChk m ≠ 0
        · rw [if_pos (.inr (.inl h))]
        · rw [hu, if_neg h] at d1
          rw [if_pos (.inr (.inr (by simpa using d1)))]
      refine awp_reg_seq fun K hK => ?_
      simp [go_sem, c0, d0, c1, d1]
      repeat refine ⟨by omega, ?_⟩
      refine hK _ ?_; clear hK K
      refine awp_ret ?_
      rw [hz]; simp [go_sem, Tryz.results97, Ground.zero]
    · have d1 := c1; try simp at d1
      have h0 : datChk m = 0 := by
        apply Classical.byContradiction
        intro h
        rw [hu, if_pos h] at d1; simp at d1
      rw [if_neg (by simp [h0])] at hu
      have hz : closedR n g k m d = (⟨1, (inForceR n g k d).1.ID, 0, lastF (inForceR n g k d).1 m + 1⟩, true) := by
        rw [hu] at d1
        unfold closedR; rw [if_neg (by simp [d0, h0]; simpa using d1)]
      refine awp_skip ?_
      refine awp_reg_seq fun K hK => ?_
      simp [go_sem, c0, d0, c1, d1]
      repeat refine ⟨by omega, ?_⟩
      refine hK _ ?_; clear hK K
      refine awp_ret ?_
      rw [hz]; simp [go_sem, Tryz.results97, hu]

theorem Rule.ext_iff' {a b : Rule} : a = b ↔ (((((a.ID = b.ID ∧ a.Class = b.Class) ∧ a.Years = b.Years) ∧ a.YearEnd = b.YearEnd) ∧ a.In.From = b.In.From) ∧ a.In.Until = b.In.Until) := by
  obtain ⟨a1, a2, a3, a4, ⟨a5, a6⟩⟩ := a
  obtain ⟨b1, b2, b3, b4, ⟨b5, b6⟩⟩ := b
  simp [and_assoc]
theorem Span.ext_iff' {a b : Span} : a = b ↔ a.From = b.From ∧ a.Until = b.Until := by
  obtain ⟨a5, a6⟩ := a
  obtain ⟨b5, b6⟩ := b
  simp
theorem lst_ext {α : Type} {n : Nat} {f g : Nat → α} : lst n f = lst n g ↔ ∀ i, i < n → f i = g i := by
  constructor
  · intro h i hi
    have := congrArg (fun l => l[i]?) h
    simpa [lst_get hi] using this
  · intro h; unfold lst; exact List.map_congr_left fun i hi => h i (by simpa using hi)
def nextC (k f : Int) (b : Rule × Bool) (r : Rule) : Bool := ((r.Class == k) && decide (f ≤ r.In.From)) && (!b.2 || decide (r.In.From < b.1.In.From))
def nextF (g : Nat → Rule) (k f : Int) : Nat → Rule × Bool
  | 0 => (Rule.zero, false)
  | i + 1 => if nextC k f (nextF g k f i) (g i) = true then (g i, true) else nextF g k f i
theorem nextF_zero (g : Nat → Rule) (k f : Int) : nextF g k f 0 = (Rule.zero, false) := rfl
end Go.Proofs.YtkochmppmpmddaaGreat

/-! Bg -/
namespace Go.Proofs.YtkochmppmpmddaaGreat
open Go.Abs Go.Arch
set_option linter.unusedVariables false
set_option linter.unusedSimpArgs false
set_option maxRecDepth 100000
set_option maxHeartbeats 400000

instance : Inhabited Span := ⟨⟨0, 0⟩⟩
def clSpan (m : Dating) (r : Rule) : Span := ⟨r.In.From, min r.In.Until (lastF r m + 1)⟩
def joins (S : List Span) (s : Span) : Prop := 0 < S.length ∧ (nth S (S.length - 1)).Until = s.From
instance (S : List Span) (s : Span) : Decidable (joins S s) := inferInstanceAs (Decidable (_ ∧ _))
def addSpan (S : List Span) (s : Span) : List Span :=
  if s.From < s.Until then (if joins S s then S.set (S.length - 1) ⟨(nth S (S.length - 1)).From, s.Until⟩ else S ++ [s]) else S
theorem addSpan_len (S : List Span) (s : Span) : (addSpan S s).length ≤ S.length + 1 := by
  unfold addSpan; split
  · split <;> simp
  · omega
def refLoop (n : Nat) (g : Nat → Rule) (k : Int) (m : Dating) : Nat → Rule × Bool → List Span → List Span
  | 0, _, S => S
  | q + 1, p, S => if p.2 = true then refLoop n g k m q (nextF g k p.1.In.Until n) (addSpan S (clSpan m p.1)) else S
def refSpans (n : Nat) (g : Nat → Rule) (k : Int) (m : Dating) : List Span := refLoop n g k m 1048577 (nextF g k 0 n) []
def refSpansR (n : Nat) (g : Nat → Rule) (k : Int) (m : Dating) : List Span × Int := if check n g ≠ 0 ∨ datChk m ≠ 0 then ([], 1) else if k < 1 ∨ 999 < k then ([], 2) else (refSpans n g k m, 0)
theorem nextF_spec (g : Nat → Rule) (k f : Int) : ∀ n, (nextF g k f n).2 = true → ∃ i, i < n ∧ (nextF g k f n).1 = g i ∧ (g i).Class = k ∧ f ≤ (g i).In.From
  | 0, h => by simp [nextF] at h
  | n + 1, h => by
    rw [nextF] at h ⊢
    split
    · rename_i hc
      refine ⟨n, by omega, rfl, ?_⟩
      unfold nextC at hc; simp at hc; exact ⟨hc.1.1, hc.1.2⟩
    · rename_i hc
      rw [if_neg hc] at h
      obtain ⟨i, h1, h2⟩ := nextF_spec g k f n h
      exact ⟨i, by omega, h2⟩
theorem formed_in {r : Rule} (h : formed r = true) : 0 ≤ r.In.From ∧ r.In.From < r.In.Until ∧ r.In.Until ≤ 1048576 := by
  unfold formed spanOk at h; simp at h; omega
theorem next_ok {n : Nat} {g : Nat → Rule} (h0 : check n g = 0) {k f : Int} (h : (nextF g k f n).2 = true) : formed (nextF g k f n).1 = true ∧ f ≤ (nextF g k f n).1.In.From := by
  obtain ⟨i, h1, h2, h3, h4⟩ := nextF_spec g k f n h
  rw [h2]; exact ⟨((check_zero h0).2 i h1).1, h4⟩


def opensF : List Span → Int → Int
  | [], f => f
  | s :: S, f => opensF S (if s.From ≤ f ∧ f < s.Until then s.Until else f)
def refOpensR (n : Nat) (g : Nat → Rule) (k : Int) (m : Dating) (f : Int) : Int × Int :=
  if (refSpansR n g k m).2 ≠ 0 then (0, (refSpansR n g k m).2) else if f < 0 ∨ 1048575 < f then (0, 2) else if 1048575 < opensF (refSpansR n g k m).1 f then (0, 23) else (opensF (refSpansR n g k m).1 f, 0)
theorem refLoop_len (n : Nat) (g : Nat → Rule) (k : Int) (m : Dating) : ∀ (q : Nat) (p : Rule × Bool) (S : List Span), (refLoop n g k m q p S).length ≤ S.length + q
  | 0, p, S => by simp [refLoop]
  | q + 1, p, S => by
    rw [refLoop]
    split
    · have := refLoop_len n g k m q (nextF g k p.1.In.Until n) (addSpan S (clSpan m p.1))
      have := addSpan_len S (clSpan m p.1)
      omega
    · omega
theorem refSpansR_len (n : Nat) (g : Nat → Rule) (k : Int) (m : Dating) : (refSpansR n g k m).1.length < 2000000 := by
  unfold refSpansR
  split
  · simp
  · split
    · simp
    · have := refLoop_len n g k m 1048577 (nextF g k 0 n) []
      simp only [List.length_nil] at this; simp only [refSpans]; omega
theorem drop_nth {α : Type} [Inhabited α] {l : List α} {i : Nat} (h : i < l.length) : l.drop i = nth l i :: l.drop (i + 1) := by
  rw [List.drop_eq_getElem_cons h, nth_eq h]
end Go.Proofs.YtkochmppmpmddaaGreat

/-! Bh -/
namespace Go.Proofs.YtkochmppmpmddaaGreat
open Go.Abs Go.Arch
set_option linter.unusedVariables false
set_option linter.unusedSimpArgs false
set_option maxRecDepth 100000
set_option maxHeartbeats 400000

theorem lst_succ {α : Type} (n : Nat) (f : Nat → α) : lst (n + 1) f = lst n f ++ [f n] := by simp [lst, List.range_succ]
def kept {α : Type} (p : α → Bool) (g : Nat → α) (j : Nat) : List α := (lst j g).filter fun r => !p r
theorem kept_succ {α : Type} (p : α → Bool) (g : Nat → α) (j : Nat) : kept p g (j + 1) = if p (g j) = true then kept p g j else kept p g j ++ [g j] := by
  unfold kept; rw [lst_succ, List.filter_append]
  by_cases h : p (g j) = true <;> simp [h]
theorem kept_len {α : Type} (p : α → Bool) (g : Nat → α) (j : Nat) : (kept p g j).length ≤ j := by
  unfold kept; have := List.length_filter_le (fun r => !p r) (lst j g); rw [lst_length] at this; exact this
theorem idx_kept {α : Type} {p : α → Bool} {g : Nat → α} {n : Nat} (h : idxFrom p (lst n g) 0 ≠ -1) : ∃ i0 : Nat, i0 < n ∧ idxFrom p (lst n g) 0 = (i0 : Int) ∧ kept p g (i0 + 1) = lst i0 g := by
  rcases idx_spec p (lst n g) 0 with ⟨h1, _⟩ | ⟨q, h1, h2, x, h3, h4, h5⟩
  · exact absurd h1 h
  · rw [lst_length] at h1
    refine ⟨q, h1, by rw [h2]; simp, ?_⟩
    rw [lst_get h1] at h3
    cases h3
    rw [kept_succ, if_pos h4]
    unfold kept
    rw [List.filter_eq_self]
    intro y hy
    simp only [lst, List.mem_map, List.mem_range] at hy
    obtain ⟨r, hr, rfl⟩ := hy
    have := h5 r (g r) hr (lst_get (by omega))
    simp [this]
theorem idx_none {α : Type} {p : α → Bool} {g : Nat → α} {n : Nat} (h : idxFrom p (lst n g) 0 = -1) : kept p g n = lst n g := by
  rcases idx_spec p (lst n g) 0 with ⟨_, h1⟩ | ⟨q, _, h2, _⟩
  · unfold kept; rw [List.filter_eq_self]; intro x hx; simp [h1 x hx]
  · omega
theorem nth_lst {α : Type} [Inhabited α] {n : Nat} {g : Nat → α} {i : Nat} (h : i < n) : nth (lst n g) i = g i := by simp [nth, lst_get h]
theorem nth_app {α : Type} [Inhabited α] {l : List α} {x : α} {i : Nat} : nth (l ++ [x]) i = if i < l.length then nth l i else if i = l.length then x else default := by
  unfold nth
  by_cases h : i < l.length
  · rw [if_pos h, List.getElem?_append_left h]
  · rw [if_neg h, List.getElem?_append_right (by omega)]
    by_cases e : i = l.length
    · subst e; simp
    · simp [e, List.getElem?_eq_none (show [x].length ≤ i - l.length by simp; omega)]


theorem indexRuleM_cs (σ : List Blk) (τ : List Blk) (n : Nat) (g : Nat → Rule) (f : FuncId) (cap : List AV) (p : Rule → Bool) (hn : n < 1000000000) (hf : ∀ i, i < n → CSF Tryz.prog f (.agg ((g i).enc.map .d) :: cap) (σ ++ .arr 6 n (fun i => Rule.enc (g i)) :: τ) (.d (B (p (g i))))) : CSF Tryz.prog 117 [.ms σ.length 6 0 n, .clo (.func f) [] cap] (σ ++ .arr 6 n (fun i => Rule.enc (g i)) :: τ) (.d (I (idxFrom p (lst n g) 0))) := by
  refine CSF.of_body T.en117 Tryz.func117 rfl (by simp [Tryz.ntmps117]) (by simp [go_sem]) fun hwf => ?_
  refine awp_reg_seq fun K hK => ?_
  simp [go_sem, Tryz.ntmps117]
  repeat refine ⟨by omega, ?_⟩
  refine hK _ ?_; clear hK K
  refine awp_seq ?_
  refine awp_reg_seq fun K hK => ?_
  simp [go_sem]
  repeat refine ⟨by omega, ?_⟩
  refine hK _ ?_; clear hK K
  refine awp_block ?_
  refine awp_forget [0, 1, 7, 8] (by simp [go_sem, restr]; rfl) ?_
  refine awp_loopU (α := Nat) (fun i => [(8, .d (I i))]) (fun i => _) (fun i => i ≤ n ∧ idxFrom p (lst n g) 0 = idxFrom p ((lst n g).drop i) i) (fun i => n - i) 0 (by simp [go_sem]) rfl (by simp) ?_
  rintro i ⟨hi, hx⟩
  refine awp_reg_seq fun K hK => ?_
  simp [go_sem]
  repeat refine ⟨by omega, ?_⟩
  refine hK _ ?_; clear hK K
  refine awp_seq ?_
  refine awp_forget [0, 1, 7, 8, 9] (by simp only [restr, List.contains_cons, List.contains_nil, Nat.reduceBEq, Bool.or_false, Bool.or_true, Bool.true_or, Bool.false_or, if_true, if_false, Bool.false_eq_true]; rfl) ?_
  refine awp_cond rfl (fun c0 => ?_) (fun c0 => ?_)
  · have d0 := c0; try simp at d0
    rw [drop_lst d0, idxFrom] at hx
    refine awp_skip ?_
    refine awp_seq ?_
    refine awp_block ?_
    refine awp_reg_seq fun K hK => ?_
    simp [go_sem, c0, d0]
    repeat refine ⟨by omega, ?_⟩
    refine hK _ ?_; clear hK K
    refine awp_reg_seq fun K hK => ?_
    simp [go_sem, c0, d0]
    repeat refine ⟨by omega, ?_⟩
    refine CSk.mk (hf i d0) ?_
    simp [go_sem, c0, d0]
    repeat refine ⟨by omega, ?_⟩
    refine hK _ ?_; clear hK K
    refine awp_forget [0, 1, 5, 7, 8, 16] (by simp only [restr, List.contains_cons, List.contains_nil, Nat.reduceBEq, Bool.or_false, Bool.or_true, Bool.true_or, Bool.false_or, if_true, if_false, Bool.false_eq_true]; rfl) ?_
    refine awp_cond rfl (fun c1 => ?_) (fun c1 => ?_)
    · have d1 := c1; try simp at d1
      refine awp_reg_seq fun K hK => ?_
      simp [go_sem, c0, d0, c1, d1]
      repeat refine ⟨by omega, ?_⟩
      refine hK _ ?_; clear hK K
      refine awp_ret ?_
      simp [go_sem, Tryz.results117, hx, c0, d0, c1, d1] <;> omega
    · have d1 := c1; try simp at d1
      refine awp_skip ?_
      refine awp_reg_end fun K hK => ?_
      simp [go_sem, c0, d0, c1, d1]
      try simp (disch := omega) only [wrapI]
      repeat refine ⟨by omega, ?_⟩
      refine hK _ ?_; clear hK K
      refine ⟨i + 1, back_of' (by simp) (.refl _) (by (simp [go_sem, wrap_succ (i := i) (by omega), c0, d0, c1, d1] <;> omega)), ⟨by omega, by rw [hx, c1]; simp⟩, by first | omega | (dsimp only; omega)⟩
  · have d0 := c0; try simp at d0
    rw [drop_all d0, idxFrom] at hx
    refine awp_exit ?_
    refine awp_reg_seq fun K hK => ?_
    simp [go_sem, c0, d0]
    repeat refine ⟨by omega, ?_⟩
    refine hK _ ?_; clear hK K
    refine awp_ret ?_
    simp [go_sem, Tryz.results117, hx, c0, d0] <;> omega

theorem deleteRule_cs (σ : List Blk) (τ : List Blk) (n : Nat) (g : Nat → Rule) (f : FuncId) (cap : List AV) (p : Rule → Bool) (hn : n < 1000000000) (hf : ∀ (h : Nat → Rule) (r : Rule) (υ : List Blk), CSF Tryz.prog f (.agg (r.enc.map .d) :: cap) (σ ++ .arr 6 n (fun i => Rule.enc (h i)) :: (τ ++ υ)) (.d (B (p r)))) : CS Tryz.prog 171 [.ms σ.length 6 0 n, .clo (.func f) [] cap] (σ ++ .arr 6 n (fun i => Rule.enc (g i)) :: τ) (fun r σ' X' => X' = [] ∧ r = .ms σ.length 6 0 (kept p g n).length ∧ σ' = σ ++ .arr 6 (kept p g n).length (fun i => Rule.enc (nth (kept p g n) i)) :: τ) := by
  have hlen := kept_len p g
  refine CS.of_bodyD [] T.en171 Tryz.func171 rfl (by simp [Tryz.ntmps171]) fun hwf => ?_
  refine awp_reg_seq fun K hK => ?_
  simp [go_sem, Tryz.ntmps171]
  repeat refine ⟨by omega, ?_⟩
  refine hK _ ?_; clear hK K
  refine awp_reg_seq fun K hK => ?_
  simp [go_sem]
  repeat refine ⟨by omega, ?_⟩
  refine CSk.mk (indexRuleM_cs σ τ n g f cap p hn (fun i hi => by simpa using hf g (g i) [])) ?_
  simp [go_sem]
  repeat refine ⟨by omega, ?_⟩
  refine hK _ ?_; clear hK K
  refine awp_seq ?_
  refine awp_reg_seq fun K hK => ?_
  simp [go_sem]
  repeat refine ⟨by omega, ?_⟩
  refine hK _ ?_; clear hK K
  refine awp_forget [0, 1, 5, 12] (by simp only [restr, List.contains_cons, List.contains_nil, Nat.reduceBEq, Bool.or_false, Bool.or_true, Bool.true_or, Bool.false_or, if_true, if_false, Bool.false_eq_true]; rfl) ?_
  refine awp_cond rfl (fun c0 => ?_) (fun c0 => ?_)
  · have d0 := c0; try simp at d0
    have hk := idx_none d0
    have hkl : (kept p g n).length = n := by rw [hk, lst_length]
    refine awp_reg_seq fun K hK => ?_
    simp [go_sem, c0, d0]
    repeat refine ⟨by omega, ?_⟩
    refine hK _ ?_; clear hK K
    refine awp_shrink σ.length (kept p g n).length (fun i => Rule.enc (nth (kept p g n) i)) (by simp [go_sem]; first | exact ⟨rfl, rfl, rfl⟩ | exact ⟨rfl, rfl⟩ | rfl) (by omega) (by exact fun i hi => by rw [hk, nth_lst (by omega)]; rfl) (by simp [go_sem]; rfl) ?_
    refine awp_ret ?_
    simp [go_sem, Tryz.results171, hkl]
    exact leaves_app (by simp [go_sem])
  · have d0 := c0; try simp at d0
    obtain ⟨i0, hi0, he, hk0⟩ := idx_kept d0
    refine awp_skip ?_
    refine awp_seq ?_
    refine awp_reg_seq fun K hK => ?_
    simp [go_sem, c0, d0, he]
    try simp (disch := omega) only [wrapI]
    repeat refine ⟨by omega, ?_⟩
    refine hK _ ?_; clear hK K
    refine awp_block ?_
    refine awp_forget [0, 1, 5, 6] (by simp [go_sem, restr]; rfl) ?_
    refine awp_loopU (α := Nat × (Nat → Rule)) (fun x => [(5, .d (I ((kept p g x.1).length : Nat))), (6, .d (I x.1))]) (fun x => σ ++ .arr 6 n (fun i => Rule.enc (x.2 i)) :: τ) (fun x => x.1 ≤ n ∧ (kept p g x.1).length < x.1 ∧ (∀ q, q < (kept p g x.1).length → x.2 q = nth (kept p g x.1) q) ∧ ∀ q, x.1 ≤ q → x.2 q = g q) (fun x => n - x.1) (i0 + 1, g) (by simp [go_sem, hk0, he, lst_length]) rfl (⟨by dsimp only; omega, by dsimp only; rw [hk0, lst_length]; omega, by dsimp only; rw [hk0, lst_length]; intro q hq; rw [nth_lst hq], fun q _ => rfl⟩) ?_
    rintro ⟨j, h⟩ ⟨hj, hc, h1, h2⟩
    dsimp only at hj hc h1 h2
    refine awp_seq ?_
    refine awp_reg_seq fun K hK => ?_
    simp [go_sem, c0, d0, he]
    repeat refine ⟨by omega, ?_⟩
    refine hK _ ?_; clear hK K
    refine awp_forget [0, 1, 5, 6, 19] (by simp only [restr, List.contains_cons, List.contains_nil, Nat.reduceBEq, Bool.or_false, Bool.or_true, Bool.true_or, Bool.false_or, if_true, if_false, Bool.false_eq_true]; rfl) ?_
    refine awp_cond rfl (fun c1 => ?_) (fun c1 => ?_)
    · have d1 := c1; try simp at d1
      have hlj := hlen j
      refine awp_skip ?_
      refine awp_seq ?_
      refine awp_block ?_
      refine awp_reg_seq fun K hK => ?_
      simp [go_sem, c0, d0, he, c1, d1]
      repeat refine ⟨by omega, ?_⟩
      refine hK _ ?_; clear hK K
      refine awp_reg_seq fun K hK => ?_
      simp [go_sem, c0, d0, he, c1, d1]
      repeat refine ⟨by omega, ?_⟩
      refine CSk.mk (hf h (h j) _) ?_
      simp [go_sem, c0, d0, he, c1, d1]
      repeat refine ⟨by omega, ?_⟩
      refine hK _ ?_; clear hK K
      refine awp_forget [0, 1, 5, 6, 7, 29] (by simp only [restr, List.contains_cons, List.contains_nil, Nat.reduceBEq, Bool.or_false, Bool.or_true, Bool.true_or, Bool.false_or, if_true, if_false, Bool.false_eq_true]; rfl) ?_
      refine awp_cond rfl (fun c2 => ?_) (fun c2 => ?_)
      · have d2 := c2; try simp at d2
        have hks : kept p g (j + 1) = kept p g j ++ [g j] := by rw [kept_succ, if_neg]; rw [← h2 j (Nat.le_refl _)]; simp [d2]
        refine awp_reg_seq fun K hK => ?_
        simp [go_sem, c0, d0, he, c1, d1, c2, d2, hks]
        repeat refine ⟨by omega, ?_⟩
        refine hK _ ?_; clear hK K
        refine awp_reg_end fun K hK => ?_
        simp [go_sem, c0, d0, he, c1, d1, c2, d2, hks]
        try simp (disch := omega) only [wrapI]
        repeat refine ⟨by omega, ?_⟩
        refine hK _ ?_; clear hK K
        refine awp_rows σ.length (fun q => Rule.enc (if q = (kept p g j).length then h j else h q)) (by simp [go_sem]; first | exact ⟨rfl, rfl, rfl⟩ | exact ⟨rfl, rfl⟩ | rfl) (by exact fun i hi => by split <;> rfl) (by simp [go_sem]; rfl) ?_
        refine awp_reg_end fun K hK => ?_
        simp [go_sem, c0, d0, he, c1, d1, c2, d2, hks]
        try simp (disch := omega) only [wrapI]
        repeat refine ⟨by omega, ?_⟩
        refine hK _ ?_; clear hK K
        refine ⟨(j + 1, fun q => if q = (kept p g j).length then h j else h q), back_of' (by simp [go_sem, wrap_succ (i := j) (by omega), c0, d0, he, c1, d1, c2, d2, hks]) ((leaves_app (by simp [go_sem]))) (by (simp [go_sem, wrap_succ (i := j) (by omega), c0, d0, he, c1, d1, c2, d2, hks] <;> omega)), ⟨by dsimp only; omega, by dsimp only; rw [hks]; simp; omega, by
            dsimp only; rw [hks]; intro q hq; rw [nth_app]; simp only [List.length_append, List.length_singleton] at hq
            by_cases e : q = (kept p g j).length
            · rw [if_pos e, if_neg (by omega), if_pos e, h2 j (Nat.le_refl _)]
            · rw [if_neg e, if_pos (by omega)]; exact h1 q (by omega), by
            dsimp only; intro q hq; rw [if_neg (by omega)]; exact h2 q (by omega)⟩, by first | omega | (dsimp only; omega)⟩
      · have d2 := c2; try simp at d2
        have hks : kept p g (j + 1) = kept p g j := by rw [kept_succ, if_pos]; rw [← h2 j (Nat.le_refl _)]; exact d2
        refine awp_skip ?_
        refine awp_reg_end fun K hK => ?_
        simp [go_sem, c0, d0, he, c1, d1, c2, d2, hks]
        try simp (disch := omega) only [wrapI]
        repeat refine ⟨by omega, ?_⟩
        refine hK _ ?_; clear hK K
        refine ⟨(j + 1, h), back_of' (by simp [go_sem, wrap_succ (i := j) (by omega), c0, d0, he, c1, d1, c2, d2, hks]) ((leaves_app (by simp [go_sem]))) (by (simp [go_sem, wrap_succ (i := j) (by omega), c0, d0, he, c1, d1, c2, d2, hks] <;> omega)), ⟨by dsimp only; omega, by dsimp only; rw [hks]; omega, by dsimp only; rw [hks]; exact h1, by dsimp only; intro q hq; exact h2 q (by omega)⟩, by first | omega | (dsimp only; omega)⟩
    · have d1 := c1; try simp at d1
      obtain rfl : j = n := by omega
      refine awp_exit ?_
      refine awp_reg_seq fun K hK => ?_
      simp [go_sem, c0, d0, he, c1, d1]
      repeat refine ⟨by omega, ?_⟩
      refine hK _ ?_; clear hK K
      refine awp_reg_seq fun K hK => ?_
      simp [go_sem, c0, d0, he, c1, d1]
      repeat refine ⟨by omega, ?_⟩
      refine hK _ ?_; clear hK K
      refine awp_shrink σ.length (kept p g j).length (fun i => Rule.enc (nth (kept p g j) i)) (by simp [go_sem]; first | exact ⟨rfl, rfl, rfl⟩ | exact ⟨rfl, rfl⟩ | rfl) (by omega) (by exact fun i hi => by rw [setRows, if_neg (by omega), h1 i hi]; rfl) (by simp [go_sem]; rfl) ?_
      refine awp_ret ?_
      simp [go_sem, Tryz.results171]
      exact leaves_app (by simp [go_sem])

theorem closure_closing_1_cs (σ : List Blk) (υ : List Blk) (r : Rule) (k : Int) : CSF Tryz.prog 172 [.agg (r.enc.map .d), .ptr σ.length 0] (σ ++ .var [.d (I k)] :: υ) (.d (B (r.Class != k))) := by
  refine CSF.of_body T.en172 Tryz.func172 rfl (by simp [Tryz.ntmps172]) (by simp [go_sem]) fun hwf => ?_
  refine awp_reg_seq fun K hK => ?_
  simp [go_sem, Tryz.ntmps172]
  repeat refine ⟨by omega, ?_⟩
  refine hK _ ?_; clear hK K
  refine awp_reg_seq fun K hK => ?_
  simp [go_sem]
  repeat refine ⟨by omega, ?_⟩
  refine hK _ ?_; clear hK K
  refine awp_ret ?_
  simp [go_sem, Tryz.results172] <;> omega

end Go.Proofs.YtkochmppmpmddaaGreat

/-! Azs -/
namespace Go.Abs
set_option linter.unusedVariables false
set_option linter.unusedSimpArgs false
open Go.Sort Go.Proofs

theorem onCells_eq {w : World} {blk : Nat} {C : Array Value} {e : TypeId} {f : Nat × Nat} (h : w.heap[blk]? = some (.cells C e f)) (g : Array Value → Array Value) (b : Nat) : (mapBlock w blk g).heap[b]? = if b = blk then some (.cells (g C) e f) else w.heap[b]? := by
  unfold mapBlock
  simp only [Array.getElem?_modify]
  by_cases hb : b = blk
  · subst hb; simp [h, onCells]
  · simp [hb, Ne.symm hb]

section
variable {α : Type} [Inhabited α] {enc : α → List Value} {k : Nat}

theorem holds_of {w : World} {j : Js} {σ : List Blk} (hS : RelS w j σ) {b cb n : Nat} {row : Nat → List D} {x : Nat → α} (hj : j[b]? = some (some cb)) (hb : σ[b]? = some (.arr k n row)) (hrow : ∀ i, i < n → row i = (enc (x i)).map .v) (hk : ∀ y, (enc y).length = k) : HoldsK enc k w cb 0 (lst n x).toArray := by
  obtain ⟨o, ho, hB⟩ := hS.blk b _ hb
  rw [hj] at ho; cases ho
  obtain ⟨C, e, hC, hcs, hrel⟩ := hB
  intro t ht
  simp only [size_flatK, List.size_toArray, lst_length] at ht
  have k0 : 0 < k := by rcases Nat.eq_zero_or_pos k with h | h; (subst h; simp at ht); exact h
  have hi : t / k < n := Nat.div_lt_of_lt_mul (by rwa [Nat.mul_comm] at ht)
  have hm : t % k < k := Nat.mod_lt _ k0
  have hr := (hrel (t / k) hi).2 (t % k) hm
  rw [hrow _ hi] at hr
  have hdm : t / k * k + t % k = t := Nat.div_add_mod' t k
  rw [hdm] at hr
  have hlt : t < C.size := by omega
  have e0 : ((enc (x (t / k))).map D.v).getD (t % k) default = D.v ((enc (x (t / k)))[t % k]!) := by
    have : t % k < (enc (x (t / k))).length := by rw [hk]; exact hm
    simp [List.getD_eq_getElem?_getD, this]
  rw [e0] at hr
  have hv : C.getD t Go.undef = (enc (x (t / k)))[t % k]! := by
    generalize C.getD t Go.undef = u at hr
    cases hr; rfl
  refine ⟨?_, ?_⟩
  · rw [cell_of hC, Nat.zero_add, get_flatK _ _ _ _ (by simpa [lst_length] using ht)]
    have e1 : (lst n x).toArray[t / k]! = x (t / k) := by
      simp [lst, hi]
    rw [e1, id, ← hv]
    simp [Array.getD_eq_getD_getElem?, hlt]
  · simp [World.frozen?, hC]

theorem sorted_rel {w : World} {j : Js} {σ : List Blk} (hS : RelS w j σ) {b cb n m : Nat} {row : Nat → List D} {d : Array α} {os : Array Obj} (hj : j[b]? = some (some cb)) (hb : σ[b]? = some (.arr k n row)) {row' : Nat → List D} (hrow : ∀ i, i < n → row' i = (enc (d[i]!)).map .v) (hk : ∀ y, (enc y).length = k) (hd : d.size = n) :
    RelS (sortWorldK enc k w cb 0 m d os) j (σ.set b (.arr k n row')) ∧ Ev j w j (sortWorldK enc k w cb 0 m d os) := by
  obtain ⟨o, ho, hB⟩ := hS.blk b _ hb
  rw [hj] at ho; cases ho
  obtain ⟨C, e, hC, hcs, hrel⟩ := hB
  have hcb : cb < w.heap.size := hS.lt b cb hj
  have hheap : ∀ c, c < w.heap.size → (sortWorldK enc k w cb 0 m d os).heap[c]? = if c = cb then some (.cells (putCells id 0 (flatK enc k d) C) e (0, 0)) else w.heap[c]? := by
    intro c hc
    unfold sortWorldK grow putRowK putRow
    simp only
    rw [Array.getElem?_append_left (by show c < (mapBlock _ _ _).heap.size; simpa [mapBlock, Go.Sort.ahead] using hc)]
    exact onCells_eq (w := Go.Sort.ahead w m) (blk := cb) (C := C) (e := e) (f := (0, 0)) hC (putCells id 0 (flatK enc k d)) c
  have hsz : (putCells id 0 (flatK enc k d) C).size = C.size := by simp [putCells]
  have hsize : w.heap.size ≤ (sortWorldK enc k w cb 0 m d os).heap.size := by
    unfold sortWorldK grow putRowK putRow mapBlock Go.Sort.ahead; simp
  have he : Ev j w j (sortWorldK enc k w cb 0 m d os) := by
    refine ⟨hsize, fun c hc hn => ?_, fun _ _ h => h, fun c hc => ?_, fun a ha => ?_, rfl, rfl, rfl, fun c r hr => ?_⟩
    · rw [hheap c hc, if_neg (fun h : c = cb => hn (by rw [h]; exact List.mem_of_getElem? hj))]
    · unfold World.shape?
      rw [hheap c hc]
      by_cases h : c = cb
      · subst h; simp [hC, hsz]
      · simp [h]
    · unfold World.frozen?
      rw [hheap a.block ha]
      by_cases h : a.block = cb
      · simp [h, hC]
      · simp [h]
    · have hc : c < w.heap.size := (Array.getElem?_eq_some_iff.1 hr).1
      refine ⟨r, ?_⟩
      rw [hheap c hc, if_neg (fun h : c = cb => by subst h; rw [hC] at hr; cases hr)]; exact hr
  refine ⟨⟨by simp [hS.len], fun c q hc => Nat.lt_of_lt_of_le (hS.lt c q hc) hsize, hS.inj, fun c y hy => ?_⟩, he⟩
  rw [List.getElem?_set] at hy
  split at hy
  · rename_i hbc
    subst hbc
    split at hy
    · simp only [Option.some.injEq] at hy
      subst hy
      refine ⟨some cb, hj, putCells id 0 (flatK enc k d) C, e, by rw [hheap cb hcb]; simp, by rw [hsz]; exact hcs, fun i hi => ⟨by rw [hrow i hi]; simp [hk], fun q hq => ?_⟩⟩
      rw [hrow i hi]
      have hlt : i * k + q < n * k := by
        have : (i + 1) * k ≤ n * k := Nat.mul_le_mul_right k hi
        rw [Nat.add_mul, Nat.one_mul] at this; omega
      have e1 : (i * k + q) / k = i := (blk_iff k i _ (by omega)).1 ⟨by omega, by omega⟩
      have e2 : (i * k + q) % k = q := by rw [Nat.mod_eq_sub_div_mul, e1]; omega
      have e3 : (putCells id 0 (flatK enc k d) C).getD (i * k + q) Go.undef = (enc d[i]!)[q]! := by
        have h1 : i * k + q < C.size := by omega
        have h2 := get_flatK enc k d (i * k + q) (by rw [hd]; exact hlt)
        rw [e1, e2, getElem!_pos _ _ (by simp [hd, hlt])] at h2
        rw [← h2]
        simp [putCells, Array.getD_eq_getD_getElem?, h1, hd, hlt]
      have e4 : ((enc d[i]!).map D.v).getD q default = D.v ((enc d[i]!)[q]!) := by
        have : q < (enc d[i]!).length := by rw [hk]; exact hq
        simp [List.getD_eq_getElem?_getD, this]
      rw [e3, e4]; exact .v _
    · simp at hy
  · rename_i hbc
    obtain ⟨o, ho, hB⟩ := hS.blk c y hy
    refine ⟨o, ho, hB.mono he hS.lt (.refl _ _) fun cb' hcb' => ?_⟩
    subst hcb'
    have hne : cb' ≠ cb := fun h => hbc (hS.inj _ _ _ hj (h ▸ ho))
    rw [hheap cb' (hS.lt c cb' ho), if_neg hne]

end
end Go.Abs

/-! Sm -/
namespace Go.Proofs
open Go.Shelf
def Tryz.sortRule_ren : Go.Shelf.Ren := ⟨fun | 6 => 173 | 15 => 185 | 14 => 184 | 28 => 198 | 29 => 199 | 20 => 190 | 21 => 191 | 22 => 192 | 23 => 193 | 24 => 194 | 25 => 195 | 26 => 196 | 27 => 197 | 46 => 202 | 47 => 203 | 48 => 204 | 49 => 205 | 50 => 206 | 57 => 207 | n => n, fun | 22 => 24 | 24 => 109 | 25 => 199 | 3 => 3 | 39 => 206 | 0 => 0 | 53 => 216 | 55 => 218 | 4 => 4 | 46 => 210 | 45 => 209 | 50 => 116 | 5 => 5 | 9 => 9 | 66 => 221 | 70 => 225 | 76 => 227 | 77 => 228 | n => n, fun | n => n⟩
theorem Tryz.sortRule : Go.Proofs.SlLaysF0.n6 Tryz.prog Tryz.sortRule_ren := {
  mixed := by kernel_rfl
  f6 := ⟨Tryz.f173.name, by decide, Tryz.func173.trans (congrArg some (by kernel_rfl))⟩
  f14 := ⟨Tryz.f184.name, by decide, Tryz.func184.trans (congrArg some (by kernel_rfl))⟩
  f15 := Tryz.func185.trans (congrArg some (by kernel_rfl))
  f20 := ⟨Tryz.f190.name, by decide, Tryz.func190.trans (congrArg some (by kernel_rfl))⟩
  f21 := ⟨Tryz.f191.name, by decide, Tryz.func191.trans (congrArg some (by kernel_rfl))⟩
  f22 := ⟨Tryz.f192.name, by decide, Tryz.func192.trans (congrArg some (by kernel_rfl))⟩
  f23 := ⟨Tryz.f193.name, by decide, Tryz.func193.trans (congrArg some (by kernel_rfl))⟩
  f24 := ⟨Tryz.f194.name, by decide, Tryz.func194.trans (congrArg some (by kernel_rfl))⟩
  f25 := ⟨Tryz.f195.name, by decide, Tryz.func195.trans (congrArg some (by kernel_rfl))⟩
  f26 := ⟨Tryz.f196.name, by decide, Tryz.func196.trans (congrArg some (by kernel_rfl))⟩
  f27 := ⟨Tryz.f197.name, by decide, Tryz.func197.trans (congrArg some (by kernel_rfl))⟩
  f28 := Tryz.func198.trans (congrArg some (by kernel_rfl))
  f29 := Tryz.func199.trans (congrArg some (by kernel_rfl))
  f46 := ⟨Tryz.f202.name, by decide, Tryz.func202.trans (congrArg some (by kernel_rfl))⟩
  f47 := Tryz.func203.trans (congrArg some (by kernel_rfl))
  f48 := Tryz.func204.trans (congrArg some (by kernel_rfl))
  f49 := ⟨Tryz.f205.name, by decide, Tryz.func205.trans (congrArg some (by kernel_rfl))⟩
  f50 := ⟨Tryz.f206.name, by decide, Tryz.func206.trans (congrArg some (by kernel_rfl))⟩
  f57 := ⟨Tryz.f207.name, by decide, Tryz.func207.trans (congrArg some (by kernel_rfl))⟩
  t0 := Tryz.underlying0
  a0 := Tryz.isAgg0
  z0 := Tryz.sizeOf0
  v0 := Tryz.zeroValue0
  t3 := Tryz.underlying3
  a3 := Tryz.isAgg3
  z3 := Tryz.sizeOf3
  v3 := Tryz.zeroValue3
  t4 := Tryz.underlying4
  a4 := Tryz.isAgg4
  z4 := Tryz.sizeOf4
  v4 := Tryz.zeroValue4
  t5 := Tryz.underlying5
  a5 := Tryz.isAgg5
  z5 := Tryz.sizeOf5
  v5 := Tryz.zeroValue5
  t9 := Tryz.underlying9
  a9 := Tryz.isAgg9
  z9 := Tryz.sizeOf9
  v9 := Tryz.zeroValue9
  t22 := Tryz.underlying24
  a22 := Tryz.isAgg24
  z22 := Tryz.sizeOf24
  v22 := Tryz.zeroValue24
  t25 := Tryz.underlying199
  a25 := Tryz.isAgg199
  z25 := Tryz.sizeOf199
  v25 := Tryz.zeroValue199
  t39 := Tryz.underlying206
  a39 := Tryz.isAgg206
  z39 := Tryz.sizeOf206
  v39 := Tryz.zeroValue206
  t45 := Tryz.underlying209
  a45 := Tryz.isAgg209
  z45 := Tryz.sizeOf209
  v45 := Tryz.zeroValue209
  t46 := Tryz.underlying210
  a46 := Tryz.isAgg210
  z46 := Tryz.sizeOf210
  v46 := Tryz.zeroValue210
  t50 := Tryz.underlying116
  a50 := Tryz.isAgg116
  z50 := Tryz.sizeOf116
  v50 := Tryz.zeroValue116
  t53 := Tryz.underlying216
  a53 := Tryz.isAgg216
  z53 := Tryz.sizeOf216
  v53 := Tryz.zeroValue216
  t55 := Tryz.underlying218
  a55 := Tryz.isAgg218
  z55 := Tryz.sizeOf218
  v55 := Tryz.zeroValue218
  t66 := Tryz.underlying221
  a66 := Tryz.isAgg221
  z66 := Tryz.sizeOf221
  v66 := Tryz.zeroValue221
  t70 := Tryz.underlying225
  a70 := Tryz.isAgg225
  z70 := Tryz.sizeOf225
  v70 := Tryz.zeroValue225
  t76 := Tryz.underlying227
  a76 := Tryz.isAgg227
  z76 := Tryz.sizeOf227
  v76 := Tryz.zeroValue227
  t77 := Tryz.underlying228
  a77 := Tryz.isAgg228
  z77 := Tryz.sizeOf228
  v77 := Tryz.zeroValue228 }
end Go.Proofs

/-! Bi -/
namespace Go.Proofs.YtkochmppmpmddaaGreat
open Go.Abs Go.Arch Go.Shelf Go.RowKit Go.Lib Go.Sort
set_option linter.unusedVariables false
set_option linter.unusedSimpArgs false
set_option maxRecDepth 100000

def FRule := { r : Rule // formed r = true }
instance : Inhabited FRule := ⟨⟨⟨1, 1, 0, false, ⟨0, 1⟩⟩, by decide⟩⟩
def encV (r : FRule) : List Value := [.int .i64 r.1.ID, .int .i64 r.1.Class, .int .i64 r.1.Years, .bool r.1.YearEnd, .int .i64 r.1.In.From, .int .i64 r.1.In.Until]
theorem encV_enc (r : FRule) : Rule.enc r.1 = (encV r).map .v := rfl
def cmpF (a b : FRule) : Int := a.1.In.From - b.1.In.From

set_option maxHeartbeats 1000000 in
theorem closure65 (a b : FRule) (W : World) : Calls Tryz.prog 174 #[.agg (encV a).toArray, .agg (encV b).toArray] W fun e w' => e = .returned (.int .i64 (cmpF a b)) ∧ ∃ q os', w' = grow (W.drewN q) os' := by
  obtain ⟨⟨a1, a2, a3, a4, ⟨a5, a6⟩⟩, ha⟩ := a
  obtain ⟨⟨b1, b2, b3, b4, ⟨b5, b6⟩⟩, hb⟩ := b
  have h1 := formed_in ha
  have h2 := formed_in hb
  simp only at h1 h2
  obtain ⟨h11, h12, h13⟩ := h1
  obtain ⟨h21, h22, h23⟩ := h2
  unfold cmpF encV
  simp only
  clear ha hb
  go_enter Tryz.func174, Tryz.ntmps174
  go_wp2
  go_ret
  exact ⟨rfl, 0, _, by rw [alloc_eq_grow, alloc_eq_grow, grow_grow]; rfl⟩

theorem cmpF_swo : SWO (ltOf cmpF) where
  irrefl x := by unfold ltOf cmpF; simp
  trans x y z h1 h2 := by unfold ltOf cmpF at *; simp at *; omega
  ntrans x y z h1 h2 := by unfold ltOf cmpF at *; simp at *; omega

theorem CSF.of_calls1 {P : Program} {f : FuncId} {v r : Value} (hen : entersB P f = true) (h : ∀ w, Calls P f #[v] w fun e w' => e = .returned r ∧ w' = w) (σ : List Blk) : CSF P f [.d (.v v)] σ (.d (.v r)) := by
  refine ⟨hen, fun j w vs hs hr => ?_⟩
  have hv : vs = #[v] := by
    have h0 := R_v (show R w j (.d (.v v)) (vs.getD 0 Go.undef) from hr.2 0 (by simp))
    apply Array.ext
    · simpa using hr.1
    · intro i h1 h2
      have hi : i = 0 := by simpa using h2
      subst hi
      rw [← (arr_get h1).2]; exact h0
  subst hv
  exact (h w).mono fun e w' ⟨he, hw⟩ => ⟨r, .d (.v r), σ, j, [], he, by rw [hw]; exact hs, .d (.v r), by rw [hw]; exact .refl _ _, Nat.le_refl _, .refl _ _, rfl, rfl, rfl⟩

theorem bitsLen_cs (σ : List Blk) (n : Nat) (h : n < 1000000000) : CSF Tryz.prog 185 [.d (.v (.int .u64 n))] σ (.d (I (Lib.bitLen n : Nat))) := by
  refine CSF.of_calls1 T.en185 (fun w => ?_) σ
  have h := Any.bits_Len (SlLaysF0.n15.bits (P := Tryz.prog) (ρ := Tryz.sortRule_ren) { Tryz.sortRule with }) (n : Int) w (by omega) (by omega)
  rwa [Int.toNat_natCast] at h

theorem sort_perm {n : Nat} {x : Nat → FRule} {d : Array FRule} (h : PermIn 0 n (lst n x).toArray d) : d.size = n ∧ (d.toList.map (·.1)).Perm (lst n fun i => (x i).1) := by
  obtain ⟨h1, _, h3⟩ := h
  have hs : d.size = n := by simpa [lst_length] using h1
  refine ⟨hs, ?_⟩
  have e1 : (d.extract 0 n).toList = d.toList := by rw [← hs]; simp
  have e2 : ((lst n x).toArray.extract 0 n).toList = lst n x := by
    simp only [List.extract_toArray, List.extract_eq_take_drop, List.drop_zero, Nat.sub_zero]
    exact List.take_of_length_le (by rw [lst_length]; exact Nat.le_refl _)
  rw [e1, e2] at h3
  have := h3.map (·.1)
  have e3 : (lst n x).map (·.1) = lst n fun i => (x i).1 := by simp [lst]
  rwa [e3] at this

set_option maxHeartbeats 1000000 in
theorem sortRule1_cs (σ τ : List Blk) (n : Nat) (g : Nat → Rule) (hf : ∀ i, i < n → formed (g i) = true) (hn0 : 0 < n) (hn : n < 1000000000) :
    CS Tryz.prog 173 [.ms σ.length 6 0 n, .clo (.func 174) [] []] (σ ++ .arr 6 n (fun i => Rule.enc (g i)) :: τ) (fun r σ' X => r = .tup [] ∧ X = [] ∧ ∃ L : List Rule, L.Perm (lst n g) ∧ L.Pairwise (fun a b => a.In.From ≤ b.In.From) ∧ σ' = σ ++ .arr 6 n (fun i => Rule.enc (nth L i)) :: τ) := by
  refine ⟨T.en173, fun j w vs hS hR => ?_⟩
  obtain ⟨hsz, hrel⟩ := hR
  have r0 : R w j (.ms σ.length 6 0 n) (vs.getD 0 Go.undef) := by simpa using hrel 0 (by simp)
  have r1 : R w j (.clo (.func 174) [] []) (vs.getD 1 Go.undef) := by simpa using hrel 1 (by simp)
  have hsz : vs.size = 2 := by simpa using hsz
  have hvs : vs = #[vs.getD 0 Go.undef, vs.getD 1 Go.undef] := by
    apply Array.ext
    · simp [hsz]
    · intro i h1 h2
      have hi : i = 0 ∨ i = 1 := by simp at h2; omega
      rcases hi with rfl | rfl
      · rw [← (arr_get h1).2]; rfl
      · rw [← (arr_get h1).2]; rfl
  rw [hvs]
  generalize vs.getD 0 Go.undef = v0 at r0
  generalize vs.getD 1 Go.undef = v1 at r1
  cases r1 with
  | clo ff cc h1 h2 h3 h4 =>
  have e1 : ff = #[] := Array.eq_empty_of_size_eq_zero (by simpa using h1)
  have e2 : cc = #[] := Array.eq_empty_of_size_eq_zero (by simpa using h2)
  subst e1 e2
  cases r0 with
  | ms0 p h => omega
  | @ms _ _ _ _ cb c e m hj hs hc hm =>
  have hb : (σ ++ Blk.arr 6 n (fun i => Rule.enc (g i)) :: τ)[σ.length]? = some (.arr 6 n fun i => Rule.enc (g i)) := by simp
  let x : Nat → FRule := fun i => if h : formed (g i) = true then ⟨g i, h⟩ else default
  have hx : ∀ i, i < n → (x i).1 = g i := fun i hi => by simp [x, hf i hi]
  have hk : ∀ y, (encV y).length = 6 := fun y => rfl
  have hH : HoldsK encV 6 w cb 0 (lst n x).toArray := holds_of hS hj hb (fun i hi => by rw [← hx i hi]; rfl) hk
  have eg : ∀ args w, (callFunc 174 args).run Tryz.prog w = .ok (.enter 174 args) w := enters_of Tryz.func174 (by kernel_rfl) rfl
  have hds : (lst n x).toArray.size = n := by simp [lst_length]
  have hcon := AnyQ.slices_SortFunc Tryz.sortRule 6 Tryz.isAgg109 Tryz.sizeOf109 encV hk (fun y v hv => by simp [encV] at hv; rcases hv with rfl | rfl | rfl | rfl | rfl | rfl <;> rfl) cmpF cmpF_swo 174 #[] cb 0 c (lst n x).toArray w eg (fun _ _ _ _ a b => closure65 a b _) hH (hS.lt _ _ hj) (by rw [hds]; omega)
  rw [hds] at hcon
  change Calls Tryz.prog 173 _ _ _ at hcon
  simp only [Nat.zero_mul]
  refine hcon.mono ?_
  rintro e' w' ⟨rfl, d', q, os, hp, hso, rfl⟩
  obtain ⟨hd, hperm⟩ := sort_perm hp
  obtain ⟨g1, g2⟩ := sorted_rel (m := q) (os := os) hS hj hb (row' := fun i => Rule.enc (nth (d'.toList.map (·.1)) i)) (fun i hi => by
    rw [getElem!_pos d' i (by omega)]
    have : nth (d'.toList.map (·.1)) i = (d'[i]'(by omega)).1 := by simp [nth, show i < d'.size by omega]
    rw [this]; rfl) hk hd
  refine ⟨_, .tup [], _, j, [], rfl, g1, .tup #[] rfl (by simp), g2, Nat.le_refl _, .refl _ _, rfl, rfl, d'.toList.map (·.1), ?_, ?_, ?_⟩
  · refine hperm.trans (List.Perm.of_eq ?_)
    exact lst_ext.2 hx
  · rw [List.pairwise_iff_getElem]
    intro i k hi hk' hik
    simp only [List.length_map, Array.length_toList] at hi hk'
    have := hso i k (Nat.zero_le _) hik (by omega)
    rw [getElem!_pos d' i hi, getElem!_pos d' k hk'] at this
    unfold ltOf cmpF at this
    simp at this ⊢; omega
  · simp only [app_set0, List.set_cons_zero]

end Go.Proofs.YtkochmppmpmddaaGreat

/-! Bj -/
namespace Go.Proofs.YtkochmppmpmddaaGreat
open Go.Abs Go.Arch
set_option linter.unusedVariables false
set_option linter.unusedSimpArgs false
set_option maxRecDepth 100000
set_option maxHeartbeats 400000


theorem insert0_cs (σ : List Blk) (τ : List Blk) (row : Nat → List D) : CSF Tryz.prog 190 [.ms σ.length 6 0 0, .d (I 0), .d (I 0), .clo (.func 174) [] []] (σ ++ .arr 6 0 row :: τ) (.tup []) := by
  refine CSF.of_body T.en190 Tryz.func190 rfl (by simp [Tryz.ntmps190]) (by simp [go_sem]) fun hwf => ?_
  refine awp_reg_seq fun K hK => ?_
  simp [go_sem, Tryz.ntmps190]
  try simp (disch := omega) only [wrapI]
  repeat refine ⟨by omega, ?_⟩
  refine hK _ ?_; clear hK K
  refine awp_block ?_
  refine awp_forget [0, 1, 2, 3, 8] (by simp [go_sem, restr]; rfl) ?_
  refine awp_loopU (α := Unit) (fun x => []) (fun x => _) (fun x => True) (fun x => 0) () (by simp [go_sem]) rfl (trivial) ?_
  rintro ⟨⟩ -
  refine awp_seq ?_
  refine awp_reg_seq fun K hK => ?_
  simp [go_sem]
  repeat refine ⟨by omega, ?_⟩
  refine hK _ ?_; clear hK K
  refine awp_forget [0, 1, 2, 3, 8, 14] (by simp only [restr, List.contains_cons, List.contains_nil, Nat.reduceBEq, Bool.or_false, Bool.or_true, Bool.true_or, Bool.false_or, if_true, if_false, Bool.false_eq_true]; rfl) ?_
  refine awp_cond rfl (fun c0 => ?_) (fun c0 => ?_)
  · have d0 := c0; try simp at d0
  · have d0 := c0; try simp at d0
    refine awp_exit ?_
    simp [go_sem, Tryz.results190, c0, d0] <;> omega

theorem pdq0_cs (σ : List Blk) (τ : List Blk) (row : Nat → List D) (l : Int) : CSF Tryz.prog 184 [.ms σ.length 6 0 0, .d (I 0), .d (I 0), .d (I l), .clo (.func 174) [] []] (σ ++ .arr 6 0 row :: τ) (.tup []) := by
  refine CSF.of_body T.en184 Tryz.func184 rfl (by simp [Tryz.ntmps184]) (by simp [go_sem]) fun hwf => ?_
  refine awp_reg_seq fun K hK => ?_
  simp [go_sem, Tryz.ntmps184]
  repeat refine ⟨by omega, ?_⟩
  refine hK _ ?_; clear hK K
  refine awp_reg_seq fun K hK => ?_
  simp [go_sem]
  repeat refine ⟨by omega, ?_⟩
  refine hK _ ?_; clear hK K
  refine awp_block ?_
  refine awp_forget [0, 1, 2, 3, 4, 10, 11] (by simp [go_sem, restr]; rfl) ?_
  refine awp_loopU (α := Unit) (fun x => []) (fun x => _) (fun x => True) (fun x => 0) () (by simp [go_sem]) rfl (trivial) ?_
  rintro ⟨⟩ -
  refine awp_block ?_
  refine awp_reg_seq fun K hK => ?_
  simp [go_sem]
  try simp (disch := omega) only [wrapI]
  repeat refine ⟨by omega, ?_⟩
  refine hK _ ?_; clear hK K
  refine awp_seq ?_
  refine awp_reg_seq fun K hK => ?_
  simp [go_sem]
  repeat refine ⟨by omega, ?_⟩
  refine hK _ ?_; clear hK K
  refine awp_forget [0, 1, 2, 3, 4, 10, 11, 12, 25] (by simp only [restr, List.contains_cons, List.contains_nil, Nat.reduceBEq, Bool.or_false, Bool.or_true, Bool.true_or, Bool.false_or, if_true, if_false, Bool.false_eq_true]; rfl) ?_
  refine awp_cond rfl (fun c0 => ?_) (fun c0 => ?_)
  · have d0 := c0; try simp at d0
    refine awp_reg_seq fun K hK => ?_
    simp [go_sem, c0, d0]
    repeat refine ⟨by omega, ?_⟩
    refine CSk.mk (insert0_cs σ τ row) ?_
    simp [go_sem, c0, d0]
    repeat refine ⟨by omega, ?_⟩
    refine hK _ ?_; clear hK K
    refine awp_ret ?_
    simp [go_sem, Tryz.results184, c0, d0] <;> omega
  · have d0 := c0; try simp at d0

theorem sort0_cs (σ : List Blk) (τ : List Blk) (row : Nat → List D) : CSF Tryz.prog 173 [.ms σ.length 6 0 0, .clo (.func 174) [] []] (σ ++ .arr 6 0 row :: τ) (.tup []) := by
  refine CSF.of_body T.en173 Tryz.func173 rfl (by simp [Tryz.ntmps173]) (by simp [go_sem]) fun hwf => ?_
  refine awp_reg_seq fun K hK => ?_
  simp [go_sem, Tryz.ntmps173]
  repeat refine ⟨by omega, ?_⟩
  refine hK _ ?_; clear hK K
  refine awp_reg_end fun K hK => ?_
  simp [go_sem]
  repeat refine ⟨by omega, ?_⟩
  refine CSk.mk (bitsLen_cs _ 0 (by omega)) ?_
  simp [go_sem]
  repeat refine ⟨by omega, ?_⟩
  refine CSk.mk (pdq0_cs σ τ row _) ?_
  simp [go_sem]
  repeat refine ⟨by omega, ?_⟩
  refine hK _ ?_; clear hK K
  simp [go_sem, Tryz.results173] <;> omega

theorem sortRule_cs (σ τ : List Blk) (n : Nat) (g : Nat → Rule) (hf : ∀ i, i < n → formed (g i) = true) (hn : n < 1000000000) :
    CS Tryz.prog 173 [.ms σ.length 6 0 n, .clo (.func 174) [] []] (σ ++ .arr 6 n (fun i => Rule.enc (g i)) :: τ) (fun r σ' X => r = .tup [] ∧ X = [] ∧ ∃ (L : List Rule) (row : Nat → List D), L.Perm (lst n g) ∧ L.Pairwise (fun a b => a.In.From ≤ b.In.From) ∧ (∀ i, i < n → row i = Rule.enc (nth L i)) ∧ σ' = σ ++ .arr 6 n row :: τ) := by
  rcases Nat.eq_zero_or_pos n with h | h
  · subst h
    exact (sort0_cs σ τ _).cs ⟨rfl, rfl, [], _, by simp [lst], .nil, fun i hi => by omega, rfl⟩
  · refine (sortRule1_cs σ τ n g hf h hn).mono ?_
    rintro r σ' X ⟨h1, h2, L, h3, h4, h5⟩
    exact ⟨h1, h2, L, _, h3, h4, fun _ _ => rfl, h5⟩
theorem kept_formed {n : Nat} {g : Nat → Rule} {p : Rule → Bool} (hf : ∀ i, i < n → formed (g i) = true) {i : Nat} (hi : i < (kept p g n).length) : formed (nth (kept p g n) i) = true := by
  rw [nth_eq hi]
  have hm := List.getElem_mem hi
  generalize (kept p g n)[i] = y at hm
  unfold kept at hm
  have := (List.mem_filter.1 hm).1
  simp only [lst, List.mem_map, List.mem_range] at this
  obtain ⟨q, hq, he⟩ := this
  rw [← he]; exact hf q hq


def ownP (k : Int) (r : Rule) : Bool := r.Class != k
theorem closure_closing_cs (σ : List Blk) (c : Option Nat) (n : Nat) (g : Nat → Rule) (k : Int) (m : Dating) (hf : ∀ i, i < n → formed (g i) = true) (hn : n < 1000000000) : CS Tryz.prog 157 [.d (SL c 6 Rule.enc n g), .d (I k), .agg (m.enc.map .d)] σ (fun r σ' X => ∃ L : List Rule, L.Perm (kept (ownP k) g n) ∧ L.Pairwise (fun a b => a.In.From ≤ b.In.From) ∧ r = .clo (.func 175) [] [.ptr (σ.length + 3) 0, .ptr (σ.length + 1) 0] ∧ σ' = σ ++ [.var [.d (I k)], .var (m.enc.map .d), .arr 6 L.length (fun i => Rule.enc (nth L i)), .var [.ms (σ.length + 2) 6 0 L.length]] ∧ X = []) := by
  have hkl := kept_len (ownP k) g n
  refine CS.of_bodyW T.en157 Tryz.func157 rfl (by simp [Tryz.ntmps157]) fun hwf => ?_
  refine awp_reg_seq fun K hK => ?_
  simp [go_sem, Tryz.ntmps157]
  repeat refine ⟨by omega, ?_⟩
  refine hK _ ?_; clear hK K
  refine awp_reg_seq fun K hK => ?_
  simp [go_sem]
  repeat refine ⟨by omega, ?_⟩
  refine CSk.gen (cloneRuleM_cs _ c n g hn) ?_; rintro r σ' X ⟨rfl, rfl, rfl⟩
  simp [go_sem]
  repeat refine ⟨by omega, ?_⟩
  have hdel := deleteRule_cs (σ ++ [.var [.d (I k)], .var (m.enc.map .d)]) [] n g 172 [.ptr σ.length 0] (ownP k) hn (fun h r υ => by simpa [ownP] using closure_closing_1_cs σ (.var (m.enc.map .d) :: .arr 6 n (fun i => Rule.enc (h i)) :: υ) r k); simp only [List.append_assoc, List.cons_append, List.nil_append, List.length_append, List.length_cons, List.length_nil, Nat.zero_add, Nat.reduceAdd] at hdel; refine CSk.gen hdel ?_; rintro r σ' X ⟨rfl, rfl, rfl⟩
  simp [go_sem]
  repeat refine ⟨by omega, ?_⟩
  refine hK _ ?_; clear hK K
  refine awp_reg_seq fun K hK => ?_
  simp [go_sem]
  repeat refine ⟨by omega, ?_⟩
  have hso := sortRule_cs (σ ++ [.var [.d (I k)], .var (m.enc.map .d)]) [.var [.ms (σ.length + 2) 6 0 (kept (ownP k) g n).length]] (kept (ownP k) g n).length (nth (kept (ownP k) g n)) (fun i hi => kept_formed hf hi) (by omega); simp only [List.append_assoc, List.cons_append, List.nil_append, List.length_append, List.length_cons, List.length_nil, Nat.zero_add, Nat.reduceAdd] at hso; refine CSk.gen hso ?_; rintro r σ' X ⟨rfl, rfl, L, row, hp, hs, hrow, rfl⟩
  simp [go_sem]
  repeat refine ⟨by omega, ?_⟩
  refine hK _ ?_; clear hK K
  have hLl : L.length = (kept (ownP k) g n).length := by rw [hp.length_eq, lst_length]
  rw [lst_nth] at hp
  refine awp_rows (σ.length + 2) (fun i => Rule.enc (nth L i)) (by simp [go_sem]; first | exact ⟨rfl, rfl, rfl⟩ | exact ⟨rfl, rfl⟩ | rfl) (by exact hrow) (by simp [go_sem]; rfl) ?_
  refine awp_reg_seq fun K hK => ?_
  simp [go_sem]
  repeat refine ⟨by omega, ?_⟩
  refine hK _ ?_; clear hK K
  refine awp_ret ?_
  simp [go_sem, Tryz.results157]
  exact ⟨L, hp, hs, by simp [hLl]⟩

end Go.Proofs.YtkochmppmpmddaaGreat

/-! Bk -/
namespace Go.Proofs.YtkochmppmpmddaaGreat
open Go.Abs Go.Arch
set_option linter.unusedVariables false
set_option linter.unusedSimpArgs false
set_option maxRecDepth 100000
set_option maxHeartbeats 400000

/-- what the rounds of a range over closing do to the store -/
structure Rounds (S : Nat → List Blk) (L : List Rule) (m : Dating) (y a b c o : Nat) : Prop where
  ha : ∀ i υ, (S i ++ υ)[a]? = some (.var [.ms c 6 0 L.length])
  ha0 : ∀ i, (S i)[a]? = some (.var [.ms c 6 0 L.length])
  hb0 : ∀ i, (S i)[b]? = some (.var (m.enc.map .d))
  hc0 : ∀ i, (S i)[c]? = some (.arr 6 L.length fun q => Rule.enc (nth L q))
  hb : ∀ i υ, (S i ++ υ)[b]? = some (.var (m.enc.map .d))
  hc : ∀ i υ, (S i ++ υ)[c]? = some (.arr 6 L.length fun q => Rule.enc (nth L q))
  hlv : ∀ i, Abs.Leaves (S 0) (S i)
  hls : ∀ i, Abs.Leaves (S i) (S (i + 1))
  hol : ∀ i, ¬ (S i).length = o
  hol1 : ∀ i, ¬ (S i).length + 1 = o
  hyo : y ≠ o
  hao : a ≠ o
  hbo : b ≠ o
  hco : c ≠ o
  yes : ∀ i, i < L.length → (clSpan m (nth L i)).From < (clSpan m (nth L i)).Until → ∀ υ : List Blk, υ.map (scrubV [o]) = υ → YS Tryz.prog y [.agg ((clSpan m (nth L i)).enc.map .d)] (S i ++ υ) (fun r σ' X => X = [o] ∧ r = .d (B true) ∧ σ' = S (i + 1) ++ υ)
  no : ∀ i, i < L.length → ¬ (clSpan m (nth L i)).From < (clSpan m (nth L i)).Until → S (i + 1) = S i


theorem closure_closing_3_cs (σ : List Blk) (S : Nat → List Blk) (L : List Rule) (m : Dating) (y a b c o : Nat) (h : Rounds S L m y a b c o) (hn : L.length < 1000000000) : CS Tryz.prog 175 [.yld y, .ptr a 0, .ptr b 0] (S 0) (fun r σ' X' => X' = [o] ∧ r = .tup [] ∧ σ' = S L.length) := by
  refine CS.of_bodyD [o] T.en175 Tryz.func175 rfl (by simp [Tryz.ntmps175]) fun hwf => ?_
  refine awp_reg_seq fun K hK => ?_
  simp [go_sem, Tryz.ntmps175, h.hol, h.hol1, h.ha, h.ha0, h.hb, h.hc, h.hb0, h.hc0, h.hyo, h.hao, h.hbo, h.hco]
  repeat refine ⟨by omega, ?_⟩
  refine hK _ ?_; clear hK K
  refine awp_block ?_
  refine awp_forget [0, 2, 7, 8, 9] (by simp [go_sem, restr]; rfl) ?_
  refine awp_mv [o] (by simp) ?_
  refine awp_loopU (α := Nat) (fun i => [(9, .d (I i))]) (fun i => S i) (fun i => i ≤ L.length) (fun i => L.length - i) 0 (by simp [go_sem, h.hol, h.hol1, h.ha, h.ha0, h.hb, h.hc, h.hb0, h.hc0, h.hyo, h.hao, h.hbo, h.hco]) rfl (by simp) ?_
  rintro i hi
  refine awp_reg_seq fun K hK => ?_
  simp [go_sem, h.hol, h.hol1, h.ha, h.ha0, h.hb, h.hc, h.hb0, h.hc0, h.hyo, h.hao, h.hbo, h.hco]
  repeat refine ⟨by omega, ?_⟩
  refine hK _ ?_; clear hK K
  refine awp_seq ?_
  refine awp_forget [0, 2, 7, 8, 9, 10] (by simp only [restr, List.contains_cons, List.contains_nil, Nat.reduceBEq, Bool.or_false, Bool.or_true, Bool.true_or, Bool.false_or, if_true, if_false, Bool.false_eq_true]; rfl) ?_
  refine awp_cond rfl (fun c0 => ?_) (fun c0 => ?_)
  · have d0 := c0; try simp at d0
    refine awp_skip ?_
    refine awp_seq ?_
    refine awp_block ?_
    refine awp_reg_seq fun K hK => ?_
    simp [go_sem, h.hol, h.hol1, h.ha, h.ha0, h.hb, h.hc, h.hb0, h.hc0, h.hyo, h.hao, h.hbo, h.hco, c0, d0]
    repeat refine ⟨by omega, ?_⟩
    refine hK _ ?_; clear hK K
    apply awp_own_seq 12 11 13 T.mixed (by kernel_rfl)
    · intro τ K hK
      simp [go_sem, h.hol, h.hol1, h.ha, h.ha0, h.hb, h.hc, h.hb0, h.hc0, h.hyo, h.hao, h.hbo, h.hco, c0, d0]
      repeat refine ⟨by omega, ?_⟩
      refine CSg.mk (closure_until_cs _ _ _) ?_
      simp [go_sem, h.hol, h.hol1, h.ha, h.ha0, h.hb, h.hc, h.hb0, h.hc0, h.hyo, h.hao, h.hbo, h.hco, c0, d0]
      repeat refine ⟨by omega, ?_⟩
      exact hK _ _
    intro K hK
    simp [go_sem, h.hol, h.hol1, h.ha, h.ha0, h.hb, h.hc, h.hb0, h.hc0, h.hyo, h.hao, h.hbo, h.hco, c0, d0]
    repeat refine ⟨by omega, ?_⟩
    refine hK _ ?_; clear hK K
    refine awp_reg_seq fun K hK => ?_
    simp [go_sem, h.hol, h.hol1, h.ha, h.ha0, h.hb, h.hc, h.hb0, h.hc0, h.hyo, h.hao, h.hbo, h.hco, c0, d0]
    repeat refine ⟨by omega, ?_⟩
    by_cases hs : (clSpan m (nth L i)).From < (clSpan m (nth L i)).Until
    · have hs' : (nth L i).In.From < min (nth L i).In.Until (lastF (nth L i) m + 1) := hs
      refine ⟨.undef, fun _ => YSk.gen (h.yes i d0 hs _ (by simp [go_sem, scrubV])) ?_, fun hf => by simp [hs'] at hf⟩
      rintro r σ' X ⟨rfl, rfl, rfl⟩
      simp [go_sem, h.hol, h.hol1, h.ha, h.ha0, h.hb, h.hc, h.hb0, h.hc0, h.hyo, h.hao, h.hbo, h.hco, c0, d0, hs']
      repeat refine ⟨by omega, ?_⟩
      refine hK _ ?_; clear hK K
      refine awp_forget [0, 2, 7, 8, 9, 34] (by simp only [restr, List.contains_cons, List.contains_nil, Nat.reduceBEq, Bool.or_false, Bool.or_true, Bool.true_or, Bool.false_or, if_true, if_false, Bool.false_eq_true]; rfl) ?_
      refine awp_cond rfl (fun c1 => ?_) (fun c1 => ?_)
      · simp at c1
      · refine awp_skip ?_
        refine awp_reg_end fun K hK => ?_
        simp [go_sem, h.hol, h.hol1, h.ha, h.ha0, h.hb, h.hc, h.hb0, h.hc0, h.hyo, h.hao, h.hbo, h.hco, c0, d0, hs']
        try simp (disch := omega) only [wrapI]
        repeat refine ⟨by omega, ?_⟩
        refine hK _ ?_; clear hK K
        refine ⟨i + 1, back_of' (by simp [go_sem, h.hol, h.hol1, h.ha, h.ha0, h.hb, h.hc, h.hb0, h.hc0, h.hyo, h.hao, h.hbo, h.hco, c0, d0, hs']) (h.hls i) (by (simp [go_sem, h.hol, h.hol1, h.ha, h.ha0, h.hb, h.hc, h.hb0, h.hc0, h.hyo, h.hao, h.hbo, h.hco, c0, d0, hs', wrap_succ (i := i) (by omega)] <;> omega)), by omega, by first | omega | (dsimp only; omega)⟩
    · have hs' : ¬ (nth L i).In.From < min (nth L i).In.Until (lastF (nth L i) m + 1) := hs
      have hno := h.no i d0 hs
      refine ⟨.d (B true), fun hf => by simp [hs'] at hf, fun _ => ?_⟩

      simp [go_sem, h.hol, h.hol1, h.ha, h.ha0, h.hb, h.hc, h.hb0, h.hc0, h.hyo, h.hao, h.hbo, h.hco, c0, d0, hs']
      repeat refine ⟨by omega, ?_⟩
      refine hK _ ?_; clear hK K
      refine awp_forget [0, 2, 7, 8, 9, 34] (by simp only [restr, List.contains_cons, List.contains_nil, Nat.reduceBEq, Bool.or_false, Bool.or_true, Bool.true_or, Bool.false_or, if_true, if_false, Bool.false_eq_true]; rfl) ?_
      refine awp_cond rfl (fun c1 => ?_) (fun c1 => ?_)
      · simp at c1
      · refine awp_skip ?_
        refine awp_reg_end fun K hK => ?_
        simp [go_sem, h.hol, h.hol1, h.ha, h.ha0, h.hb, h.hc, h.hb0, h.hc0, h.hyo, h.hao, h.hbo, h.hco, c0, d0, hs']
        try simp (disch := omega) only [wrapI]
        repeat refine ⟨by omega, ?_⟩
        refine hK _ ?_; clear hK K
        refine ⟨i + 1, back_of' (by simp [go_sem, h.hol, h.hol1, h.ha, h.ha0, h.hb, h.hc, h.hb0, h.hc0, h.hyo, h.hao, h.hbo, h.hco, c0, d0, hs', hno]) (h.hls i) (by (simp [go_sem, h.hol, h.hol1, h.ha, h.ha0, h.hb, h.hc, h.hb0, h.hc0, h.hyo, h.hao, h.hbo, h.hco, c0, d0, hs', wrap_succ (i := i) (by omega)] <;> omega)), by omega, by first | omega | (dsimp only; omega)⟩
  · have d0 := c0; try simp at d0
    refine awp_exit ?_
    have he : i = L.length := by omega
    subst he
    simp [go_sem, Tryz.results175, c0, d0]
    exact h.hlv _
end Go.Proofs.YtkochmppmpmddaaGreat

/-! Bm -/
namespace Go.Proofs.YtkochmppmpmddaaGreat
open Go.Abs Go.Arch
set_option linter.unusedVariables false
set_option linter.unusedSimpArgs false

def spansOf (m : Dating) (L : List Rule) (S : List Span) : List Span := L.foldl (fun S r => addSpan S (clSpan m r)) S

theorem mem_kept {n : Nat} {g : Nat → Rule} {k : Int} {r : Rule} : r ∈ kept (ownP k) g n ↔ ∃ i, i < n ∧ g i = r ∧ r.Class = k := by
  unfold kept
  rw [List.mem_filter]
  simp only [lst, List.mem_map, List.mem_range, ownP]
  constructor
  · rintro ⟨⟨i, h1, h2⟩, h3⟩
    exact ⟨i, h1, h2, by simpa using h3⟩
  · rintro ⟨i, h1, h2, h3⟩
    exact ⟨⟨i, h1, h2⟩, by simpa using h3⟩

def apart (a b : Rule) : Prop := a.In.Until ≤ b.In.From ∨ b.In.Until ≤ a.In.From
theorem apart.symm {a b : Rule} (h : apart a b) : apart b a := h.elim .inr .inl

theorem not_clash {n : Nat} {g : Nat → Rule} (h0 : check n g = 0) {i j : Nat} (hij : i < j) (hj : j < n) (hc : (g i).Class = (g j).Class) : apart (g i) (g j) := by
  have h := ((check_zero h0).2 j hj).2.2
  have hm : g i ∈ lst j g := by
    simp only [lst, List.mem_map, List.mem_range]
    exact ⟨i, hij, rfl⟩
  have := List.any_eq_false.1 h _ hm
  unfold clash at this
  unfold apart
  simp [hc] at this
  omega

theorem kept_apart {n : Nat} {g : Nat → Rule} (h0 : check n g = 0) (k : Int) : (kept (ownP k) g n).Pairwise apart := by
  have key : ∀ q, q ≤ n → (kept (ownP k) g q).Pairwise apart := by
    intro q
    induction q with
    | zero => intro _; simp [kept, lst]
    | succ q ih =>
      intro hq
      rw [kept_succ]
      split
      · exact ih (by omega)
      · rename_i hc
        refine List.pairwise_append.2 ⟨ih (by omega), by simp, fun a ha b hb => ?_⟩
        simp at hb
        subst hb
        obtain ⟨i, h1, h2, h3⟩ := mem_kept.1 ha
        have hk : (g q).Class = k := by simpa [ownP] using hc
        rw [← h2]
        exact not_clash h0 h1 (by omega) (by rw [h2, h3, hk])
  exact key n (Nat.le_refl _)

theorem kept_all {n : Nat} {g : Nat → Rule} (h0 : check n g = 0) {k : Int} {r : Rule} (h : r ∈ kept (ownP k) g n) : formed r = true := by
  obtain ⟨i, h1, h2, _⟩ := mem_kept.1 h
  rw [← h2]; exact ((check_zero h0).2 i h1).1

/-- sorted, formed and apart: one behind the other -/
theorem sorted_chain {n : Nat} {g : Nat → Rule} (h0 : check n g = 0) {k : Int} {L : List Rule} (hp : L.Perm (kept (ownP k) g n)) (hs : L.Pairwise fun a b => a.In.From ≤ b.In.From) : L.Pairwise fun a b => a.In.Until ≤ b.In.From := by
  have ha : L.Pairwise apart := (hp.pairwise_iff fun {a b} h => apart.symm h).2 (kept_apart h0 k)
  have hf : ∀ r ∈ L, formed r = true := fun r hr => kept_all h0 (hp.mem_iff.1 hr)
  refine List.Pairwise.imp_of_mem ?_ (hs.and ha)
  rintro a b hma hmb ⟨h1, h2⟩
  have fa := formed_in (hf a hma)
  have fb := formed_in (hf b hmb)
  rcases h2 with h2 | h2 <;> omega

theorem nextF_min (g : Nat → Rule) (k f : Int) : ∀ n, ((nextF g k f n).2 = false → ∀ i, i < n → (g i).Class = k → (g i).In.From < f) ∧ ((nextF g k f n).2 = true → ∀ i, i < n → (g i).Class = k → f ≤ (g i).In.From → (nextF g k f n).1.In.From ≤ (g i).In.From)
  | 0 => ⟨fun _ i hi => by omega, fun _ i hi => by omega⟩
  | n + 1 => by
    obtain ⟨ih1, ih2⟩ := nextF_min g k f n
    rw [nextF]
    split
    · rename_i hc
      unfold nextC at hc
      simp at hc
      refine ⟨by simp, fun _ i hi hk hf => ?_⟩
      by_cases he : i = n
      · subst he; exact Int.le_refl _
      · rcases hc.2 with h | h
        · have := ih1 h i (by omega) hk; omega
        · cases h2 : (nextF g k f n).2 with
          | false => have := ih1 h2 i (by omega) hk; omega
          | true =>
            have := ih2 h2 i (by omega) hk hf
            simp only
            omega
    · rename_i hc
      unfold nextC at hc
      simp at hc
      refine ⟨fun h i hi hk => ?_, fun h i hi hk hf => ?_⟩
      · by_cases he : i = n
        · subst he
          rcases Int.lt_or_le (g i).In.From f with hlt | hle
          · exact hlt
          · have := hc hk hle; rw [h] at this; simp at this
        · exact ih1 h i (by omega) hk
      · by_cases he : i = n
        · subst he; exact (hc hk hf).2
        · exact ih2 h i (by omega) hk hf

theorem refLoop_list {n : Nat} {g : Nat → Rule} (h0 : check n g = 0) {k : Int} (m : Dating) {L : List Rule} (hm : ∀ r, r ∈ L ↔ ∃ i, i < n ∧ g i = r ∧ r.Class = k) (hc : L.Pairwise fun a b => a.In.Until ≤ b.In.From) (hf : ∀ r ∈ L, formed r = true) :
    ∀ (Q pre : List Rule) (f : Int) (S : List Span) (q : Nat), L = pre ++ Q → (∀ a ∈ pre, a.In.From < f) → (∀ b ∈ Q, f ≤ b.In.From) → Q.length ≤ q → refLoop n g k m q (nextF g k f n) S = spansOf m Q S
  | [], pre, f, S, q, hL, hpre, _, _ => by
    have h2 : (nextF g k f n).2 = false := by
      cases h : (nextF g k f n).2 with
      | false => rfl
      | true =>
        obtain ⟨i, h1, h2, h3, h4⟩ := nextF_spec g k f n h
        have : g i ∈ pre := by
          have := (hm (g i)).2 ⟨i, h1, rfl, h3⟩
          rw [hL] at this; simpa using this
        have := hpre _ this
        omega
    cases q <;> simp [refLoop, h2, spansOf]
  | r :: Q, pre, f, S, q, hL, hpre, hQ, hq => by
    obtain ⟨q, rfl⟩ : ∃ q', q = q' + 1 := ⟨q - 1, by simp at hq; omega⟩
    have hr : r ∈ L := by rw [hL]; simp
    obtain ⟨ir, hr1, hr2, hr3⟩ := (hm r).1 hr
    have hfr := hQ r (by simp)
    have hrf := formed_in (hf r hr)
    have hpw := hc
    rw [hL] at hpw
    obtain ⟨hpp, hrq, hpr⟩ := List.pairwise_append.1 hpw
    have hrq' := List.pairwise_cons.1 hrq
    have hN : nextF g k f n = (r, true) := by
      cases h : (nextF g k f n).2 with
      | false =>
        have := (nextF_min g k f n).1 h ir hr1 (by rw [hr2]; exact hr3)
        rw [hr2] at this; omega
      | true =>
        obtain ⟨i, h1, h2, h3, h4⟩ := nextF_spec g k f n h
        have hmin := (nextF_min g k f n).2 h ir hr1 (by rw [hr2]; exact hr3) (by rw [hr2]; exact hfr)
        rw [hr2] at hmin
        have hin : g i ∈ pre ++ r :: Q := by
          rw [← hL]; exact (hm (g i)).2 ⟨i, h1, rfl, h3⟩
        have he : g i = r := by
          rcases List.mem_append.1 hin with hin | hin
          · have := hpre _ hin; omega
          · rcases List.mem_cons.1 hin with hin | hin
            · exact hin
            · have := hrq'.1 _ hin
              rw [h2] at hmin
              omega
        exact Prod.ext (by rw [h2, he]) h
    rw [refLoop, hN]
    simp only [if_true]
    have := refLoop_list h0 m hm hc hf Q (pre ++ [r]) r.In.Until (addSpan S (clSpan m r)) q (by rw [hL]; simp) (fun a ha => ?_) (fun b hb => hrq'.1 b hb) (by simp at hq; omega)
    · rw [this]; rfl
    · rcases List.mem_append.1 ha with ha | ha
      · have h1 := hpr a ha r (by simp)
        have h2 := formed_in (hf a (by rw [hL]; exact List.mem_append_left _ ha))
        omega
      · simp at ha; subst ha; omega

theorem spans_eq {n : Nat} {g : Nat → Rule} (h0 : check n g = 0) {k : Int} (m : Dating) {L : List Rule} (hp : L.Perm (kept (ownP k) g n)) (hs : L.Pairwise fun a b => a.In.From ≤ b.In.From) : spansOf m L [] = refSpans n g k m := by
  have hf : ∀ r ∈ L, formed r = true := fun r hr => kept_all h0 (hp.mem_iff.1 hr)
  have hl : L.length ≤ n := by rw [hp.length_eq]; exact kept_len _ _ _
  have hn := (check_zero h0).1
  unfold refSpans
  exact (refLoop_list h0 m (fun r => hp.mem_iff.trans mem_kept) (sorted_chain h0 hp hs) hf L [] 0 [] 1048577 rfl (by simp) (fun b hb => (formed_in (hf b hb)).1) (by omega)).symm

end Go.Proofs.YtkochmppmpmddaaGreat

/-! Bl -/
namespace Go.Proofs.YtkochmppmpmddaaGreat
open Go.Abs Go.Arch
set_option linter.unusedVariables false
set_option linter.unusedSimpArgs false
set_option maxRecDepth 100000
set_option maxHeartbeats 400000

theorem spansOf_snoc (m : Dating) (L : List Rule) (i : Nat) (h : i < L.length) (S : List Span) : spansOf m (L.take (i + 1)) S = addSpan (spansOf m (L.take i) S) (clSpan m (nth L i)) := by
  rw [List.take_succ_eq_append_getElem h, nth_eq h]
  unfold spansOf
  rw [List.foldl_append]; rfl

theorem spansOf_len (m : Dating) : ∀ (L : List Rule) (S : List Span), (spansOf m L S).length ≤ S.length + L.length
  | [], S => by simp [spansOf]
  | r :: L, S => by
    have := spansOf_len m L (addSpan S (clSpan m r))
    have := addSpan_len S (clSpan m r)
    simp only [spansOf, List.foldl_cons, List.length_cons] at *
    omega

theorem awp_rangeL {P : Program} {Q : Exit → St → Prop} {s : St} {g : Operand} {ps : Array Tmp} {assign body : Code} {fid : FuncId} {first captured : List AV} (hg : val s g = some (.clo (.func fid) first captured)) (t' : List (Nat × AV)) (ht : subT t' s.t)
    (h : ∀ La : LoopA, La = ⟨s.N, t', ps, assign, body⟩ → CS P fid (first ++ (.yld s.σ.length :: captured)) (s.σ ++ [.lp La .ready none]) fun r σ' X => ∃ σ'' L' st pd, σ' = σ'' ++ [.lp L' st pd] ∧ Abs.Leaves s.σ σ'' ∧ st ≠ .busy ∧ mvNot s.σ.length X ∧ jumpQ Q (s.after σ'' X) pd) :
    AWP P (.rangeFunc g ps assign body) Q s := awp_range hg t' ht (h _ rfl)

theorem closure_spans_cs (σ : List Blk) (c : Option Nat) (n : Nat) (g : Nat → Rule) (k : Int) (m : Dating) (h0 : check n g = 0) : CSF Tryz.prog 138 [.d (SL c 6 Rule.enc n g), .d (I k), .agg (m.enc.map .d)] σ (.d (SL none 2 Span.enc (refSpans n g k m).length (nth (refSpans n g k m)))) := by
  have hn : n ≤ 64 := (check_zero h0).1
  have hf : ∀ i, i < n → formed (g i) = true := fun i hi => ((check_zero h0).2 i hi).1
  refine CSF.of_body T.en138 Tryz.func138 rfl (by simp [Tryz.ntmps138]) (by simp [go_sem]) fun hwf => ?_
  refine awp_reg_seq fun K hK => ?_
  simp [go_sem, Tryz.ntmps138]
  refine hK _ ?_; clear hK K
  refine awp_reg_seq fun K hK => ?_
  simp [go_sem]
  refine hK _ ?_; clear hK K
  refine awp_thawV (σ.length + 1) 2 (fun i => Span.enc (nth ([] : List Span) i)) (by simp [go_sem]) (by simp [go_sem]; rfl) ?_
  refine awp_seq ?_
  refine awp_reg_seq fun K hK => ?_
  simp [go_sem]
  have hcl := closure_closing_cs (σ ++ [.var (m.enc.map .d), .var [.ms (σ.length + 2) 2 0 0], .arr 2 0 (fun i => Span.enc (nth ([] : List Span) i))]) c n g k m hf (by omega)
  simp only [List.append_assoc, List.cons_append, List.nil_append, List.length_append, List.length_cons, List.length_nil, Nat.zero_add, Nat.reduceAdd] at hcl
  refine CSk.gen hcl ?_
  rintro r σ' X ⟨L, hp, hs, rfl, rfl, rfl⟩
  simp [go_sem]
  refine hK _ ?_; clear hK K
  refine awp_block ?_
  refine awp_rangeL rfl [(7, .ptr (σ.length + 1) 0)] (by simp [go_sem]) ?_
  intro La hLa
  have hll : L.length ≤ n := by rw [hp.length_eq]; exact kept_len _ _ _
  have hR : Rounds (fun i => σ ++ [.var (m.enc.map .d), .var [.ms (σ.length + 2) 2 0 (spansOf m (L.take i) []).length], .arr 2 (spansOf m (L.take i) []).length (fun q => Span.enc (nth (spansOf m (L.take i) []) q)), .var [.d (I k)], .var (m.enc.map .d), .arr 6 L.length (fun i => Rule.enc (nth L i)), .var [.ms (σ.length + 5) 6 0 L.length], .lp La .ready none]) L m (σ.length + 7) (σ.length + 6) (σ.length + 4) (σ.length + 5) (σ.length + 2) := by
    refine ⟨fun i υ => by simp [go_sem], fun i => by simp [go_sem], fun i => by simp [go_sem], fun i => by simp [go_sem], fun i υ => by simp [go_sem], fun i υ => by simp [go_sem], fun i => leaves_app (by simp [go_sem]), fun i => leaves_app (by simp [go_sem]), fun i => by simp, fun i => by simp, by omega, by omega, by omega, by omega, ?_, ?_⟩
    · intro i hi hlt υ hυ
      have hT := spansOf_snoc m L i hi []
      have hTl := spansOf_len m (L.take i) []
      have hTl' : (spansOf m (L.take i) []).length ≤ 64 := by
        simp only [List.length_take, List.length_nil] at hTl; omega
      generalize spansOf m (L.take i) [] = W at hT hTl hTl' ⊢
      generalize clSpan m (nth L i) = s at hT hlt ⊢
      refine YS.of_awp (L := La) (pd := none) (by simp [go_sem]) (by rw [hLa]; rfl) ?_
      intro hwf'
      have eN := congrArg LoopA.N hLa
      have et := congrArg LoopA.t hLa
      have ep := congrArg LoopA.ps hLa
      have ea := congrArg LoopA.assign hLa
      have eb := congrArg LoopA.body hLa
      dsimp only at eN et ep ea eb
      have h1 : scrub' [σ.length + 2] La.t = La.t := by rw [et]; simp [scrub', AV.avoids]
      rw [eN, et, ep, ea, eb]
      clear eN et ep ea eb hLa hcl
      refine awp_reg_end fun K hK => ?_
      simp [go_sem, St.putL]
      refine hK _ ?_; clear hK K
      simp [begunQ, go_sem, mvNot]
      refine awp_block ?_
      refine awp_seq ?_
      refine awp_reg_seq fun K hK => ?_
      simp [go_sem]
      refine hK _ ?_; clear hK K
      refine awp_draw_seq 13 T.mixed (by kernel_rfl) fun K hK => ?_
      simp [go_sem]
      try simp (disch := omega) only [wrapI]
      repeat refine ⟨by omega, ?_⟩
      refine hK _ ?_; clear hK K
      refine awp_forget [7, 8, 9, 29] (by simp only [restr, List.contains_cons, List.contains_nil, Nat.reduceBEq, Bool.or_false, Bool.or_true, Bool.true_or, Bool.false_or, if_true, if_false, Bool.false_eq_true]; rfl) ?_
      refine awp_cond rfl (fun c4 => ?_) (fun c4 => ?_)
      · have d4 := c4; try simp at d4
        have ha : addSpan W s = W.set (W.length - 1) ⟨(nth W (W.length - 1)).From, s.Until⟩ := by
          unfold addSpan; rw [if_pos hlt, if_pos (show joins W s from d4)]
        rw [hT, ha]
        refine awp_reg_seq fun K hK => ?_
        simp [go_sem, c4, d4]
        try simp (disch := omega) only [wrapI]
        repeat refine ⟨by omega, ?_⟩
        refine hK _ ?_; clear hK K
        refine awp_rows (σ.length + 2) (fun i => Span.enc (nth (W.set (W.length - 1) ⟨(nth W (W.length - 1)).From, s.Until⟩) i)) (by simp [go_sem]; first | exact ⟨rfl, rfl, rfl⟩ | exact ⟨rfl, rfl⟩ | rfl) (by exact fun i hi => set_nth (enc := Span.enc) (x := ⟨(nth W (W.length - 1)).From, s.Until⟩) rfl hi) (by simp [go_sem]; rfl) ?_
        refine awp_exit ?_
        simp [go_sem, roundQ, jumpOf, mvNot, mvIn]
        exact leaves_app (by simp [go_sem, leavesL_refl])
      · have d4 := c4; try simp at d4
        have ha : addSpan W s = W ++ [s] := by
          unfold addSpan; rw [if_pos hlt, if_neg (by
            unfold joins; rintro ⟨h1, h2⟩; exact d4 h1 h2)]
        rw [hT, ha]
        refine awp_skip ?_
        refine awp_post ?_
        refine awp_reg_end fun K hK => ?_
        simp [go_sem, c4, d4, hwf.one, hwf.zero, hυ, h1]
        repeat refine ⟨by omega, ?_⟩
        refine hK _ ?_; clear hK K
        refine ⟨_, sub_rows (σ.length + 2) (fun i => Span.enc (nth (W ++ [s]) i)) (by simp [go_sem]; first | exact ⟨rfl, rfl, rfl⟩ | exact ⟨rfl, rfl⟩ | rfl) (by exact fun i hi => cat_nth (enc := Span.enc) (x := s) rfl hi) (by simp [go_sem]; rfl), ?_⟩
        simp [go_sem, roundQ, jumpOf, mvNot, mvIn]
        exact leaves_app (by simp [go_sem, leavesL_refl])
    · intro i hi hlt
      have hT := spansOf_snoc m L i hi []
      have : addSpan (spansOf m (L.take i) []) (clSpan m (nth L i)) = spansOf m (L.take i) [] := by unfold addSpan; rw [if_neg hlt]
      simp only [hT, this]
  have h3 := closure_closing_3_cs σ _ L m _ _ _ _ _ hR (by omega)
  refine CS.mono (Q := fun r σ' X' => X' = [σ.length + 2] ∧ r = .tup [] ∧ σ' = _) (by simpa [go_sem, spansOf] using h3) ?_
  rintro r σ' X ⟨rfl, rfl, rfl⟩
  have he : List.foldl (fun S r => addSpan S (clSpan m r)) [] L = refSpans n g k m := spans_eq h0 m hp hs
  rw [he]
  clear h3 hR hLa hcl
  refine ⟨σ ++ [.var [.d (I m.First), .d (I m.Last)], .var [.ms (σ.length + 2) 2 0 (refSpans n g k m).length], .arr 2 (refSpans n g k m).length (fun q => [I (nth (refSpans n g k m) q).From, I (nth (refSpans n g k m) q).Until]), .var [.d (I k)], .var [.d (I m.First), .d (I m.Last)], .arr 6 L.length (fun i => [I (nth L i).ID, I (nth L i).Class, I (nth L i).Years, B (nth L i).YearEnd, I (nth L i).In.From, I (nth L i).In.Until]), .var [.ms (σ.length + 5) 6 0 L.length]], La, .ready, none, by simp, leaves_app (by simp [go_sem]), by simp, by simp [mvNot], ?_⟩
  simp [jumpQ, go_sem, scrub', AV.avoids, avoidsL]
  refine awp_reg_seq fun K hK => ?_
  simp [go_sem]
  refine hK _ ?_; clear hK K
  refine awp_freeze (σ.length + 2) (by simp [go_sem]; first | exact ⟨rfl, rfl, rfl⟩ | exact ⟨rfl, rfl⟩ | rfl) (by simp [go_sem]; rfl) (by simp [go_sem, hwf.frz, hwf.frz0]; rfl) ?_
  refine awp_ret ?_
  simp [go_sem, Tryz.results138]

end Go.Proofs.YtkochmppmpmddaaGreat

/-! Bn -/
namespace Go.Proofs.YtkochmppmpmddaaGreat
open Go.Abs Go.Arch
set_option linter.unusedVariables false
set_option linter.unusedSimpArgs false

def inS (W : List Span) (d : Int) : Prop := ∃ s ∈ W, s.From ≤ d ∧ d < s.Until
structure GoodSpans (W : List Span) : Prop where
  each : ∀ s ∈ W, 0 ≤ s.From ∧ s.From < s.Until ∧ s.Until ≤ 1048576
  apart : W.Pairwise fun a b => a.Until < b.From

theorem nth_last (W : List Span) (l : Span) : nth (W ++ [l]) ((W ++ [l]).length - 1) = l := by
  rw [nth_eq (by simp)]; simp

theorem addSpan_concat (W : List Span) (l q : Span) : addSpan (W ++ [l]) q = if q.From < q.Until then (if l.Until = q.From then W ++ [⟨l.From, q.Until⟩] else W ++ [l] ++ [q]) else W ++ [l] := by
  have hj : joins (W ++ [l]) q ↔ l.Until = q.From := by unfold joins; rw [nth_last]; simp
  unfold addSpan
  by_cases h1 : q.From < q.Until
  · rw [if_pos h1, if_pos h1]
    by_cases h2 : l.Until = q.From
    · rw [if_pos (hj.2 h2), if_pos h2, nth_last]; simp
    · rw [if_neg (fun h => h2 (hj.1 h)), if_neg h2]
  · rw [if_neg h1, if_neg h1]

theorem addSpan_nil (q : Span) : addSpan [] q = if q.From < q.Until then [q] else [] := by
  have hj : ¬ joins [] q := by unfold joins; simp
  unfold addSpan
  rw [if_neg hj]; rfl

theorem addSpan_good {W : List Span} {q : Span} (h : GoodSpans W) (hb : ∀ s ∈ W, s.Until ≤ q.From) (h0 : 0 ≤ q.From) (h1 : q.Until ≤ 1048576) :
    GoodSpans (addSpan W q) ∧ (∀ d, inS (addSpan W q) d ↔ inS W d ∨ (q.From ≤ d ∧ d < q.Until)) ∧ ∀ s ∈ addSpan W q, s.Until ≤ q.From ∨ s.Until ≤ q.Until := by
  rcases List.eq_nil_or_concat W with rfl | ⟨W, l, rfl⟩
  · rw [addSpan_nil]
    split
    · rename_i hq
      refine ⟨⟨fun s hs => by simp at hs; subst hs; exact ⟨h0, hq, h1⟩, by simp⟩, fun d => by simp [inS], fun s hs => by simp at hs; subst hs; exact .inr (Int.le_refl _)⟩
    · rename_i hq
      refine ⟨h, fun d => ?_, by simp⟩
      simp only [inS, List.not_mem_nil, false_and, exists_false, false_or, false_iff]
      omega
  · have h' := h
    obtain ⟨he, ha⟩ := h
    rw [List.concat_eq_append] at *
    obtain ⟨ha1, ha2, ha3⟩ := List.pairwise_append.1 ha
    have hl := he l (by simp)
    have hlb := hb l (by simp)
    rw [addSpan_concat]
    split
    · rename_i hq
      split
      · rename_i hj
        refine ⟨⟨fun s hs => ?_, ?_⟩, fun d => ?_, fun s hs => ?_⟩
        · rcases List.mem_append.1 hs with hs | hs
          · exact he s (List.mem_append_left _ hs)
          · simp at hs; subst hs; simp only; omega
        · refine List.pairwise_append.2 ⟨ha1, by simp, fun a hma b hmb => ?_⟩
          simp at hmb; subst hmb
          exact ha3 a hma l (by simp)
        · constructor
          · rintro ⟨s, hs, h2⟩
            rcases List.mem_append.1 hs with hs | hs
            · exact .inl ⟨s, List.mem_append_left _ hs, h2⟩
            · simp at hs; subst hs
              simp only at h2
              rcases Int.lt_or_le d l.Until with hd | hd
              · exact .inl ⟨l, by simp, by omega⟩
              · exact .inr (by omega)
          · rintro (⟨s, hs, h2⟩ | h2)
            · rcases List.mem_append.1 hs with hs | hs
              · exact ⟨s, List.mem_append_left _ hs, h2⟩
              · simp at hs; subst hs
                exact ⟨_, List.mem_append_right _ (List.mem_singleton.2 rfl), by simp only; omega⟩
            · exact ⟨_, List.mem_append_right _ (List.mem_singleton.2 rfl), by simp only; omega⟩
        · rcases List.mem_append.1 hs with hs | hs
          · exact .inl (hb s (List.mem_append_left _ hs))
          · simp at hs; subst hs; exact .inr (Int.le_refl _)
      · rename_i hj
        refine ⟨⟨fun s hs => ?_, ?_⟩, fun d => ?_, fun s hs => ?_⟩
        · rcases List.mem_append.1 hs with hs | hs
          · exact he s hs
          · simp at hs; subst hs; exact ⟨h0, hq, h1⟩
        · refine List.pairwise_append.2 ⟨ha, by simp, fun a hma b hmb => ?_⟩
          simp at hmb; subst hmb
          rcases List.mem_append.1 hma with hma | hma
          · have := ha3 a hma l (by simp); omega
          · simp at hma; subst hma; omega
        · simp only [inS, List.mem_append, List.mem_singleton]
          constructor
          · rintro ⟨s, hs | rfl, h2⟩
            · exact .inl ⟨s, hs, h2⟩
            · exact .inr h2
          · rintro (⟨s, hs, h2⟩ | h2)
            · exact ⟨s, .inl hs, h2⟩
            · exact ⟨q, .inr rfl, h2⟩
        · rcases List.mem_append.1 hs with hs | hs
          · exact .inl (hb s hs)
          · simp at hs; subst hs; exact .inr (Int.le_refl _)
    · rename_i hq
      refine ⟨h', fun d => ⟨.inl, fun h => h.elim id fun h => ?_⟩, fun s hs => .inl (hb s hs)⟩
      omega

theorem spansOf_good (m : Dating) : ∀ (L : List Rule) (W : List Span), GoodSpans W → L.Pairwise (fun a b => a.In.Until ≤ b.In.From) → (∀ r ∈ L, formed r = true) → (∀ s ∈ W, ∀ r ∈ L, s.Until ≤ r.In.From) →
    GoodSpans (spansOf m L W) ∧ ∀ d, inS (spansOf m L W) d ↔ inS W d ∨ ∃ r ∈ L, (clSpan m r).From ≤ d ∧ d < (clSpan m r).Until
  | [], W, h, _, _, _ => ⟨h, fun d => by simp [spansOf]⟩
  | r :: L, W, h, hc, hf, hb => by
    have hr := formed_in (hf r (by simp))
    obtain ⟨c1, c2⟩ := List.pairwise_cons.1 hc
    have hu : (clSpan m r).Until ≤ r.In.Until := by unfold clSpan; simp only; omega
    obtain ⟨g1, g2, g3⟩ := addSpan_good (q := clSpan m r) h (fun s hs => hb s hs r (by simp)) hr.1 (by omega)
    obtain ⟨k1, k2⟩ := spansOf_good m L (addSpan W (clSpan m r)) g1 c2 (fun x hx => hf x (by simp [hx])) fun s hs x hx => by
      have hx1 := c1 x hx
      have hfr : (clSpan m r).From = r.In.From := rfl
      rcases g3 s hs with h | h <;> omega
    refine ⟨k1, fun d => ?_⟩
    have e : spansOf m (r :: L) W = spansOf m L (addSpan W (clSpan m r)) := rfl
    rw [e, k2 d, g2 d]
    constructor
    · rintro ((h | h) | ⟨x, hx, h⟩)
      · exact .inl h
      · exact .inr ⟨r, by simp, h⟩
      · exact .inr ⟨x, by simp [hx], h⟩
    · rintro (h | ⟨x, hx, h⟩)
      · exact .inl (.inl h)
      · rcases List.mem_cons.1 hx with rfl | hx
        · exact .inl (.inr h)
        · exact .inr ⟨x, hx, h⟩

theorem refSpans_good {n : Nat} {g : Nat → Rule} (h0 : check n g = 0) (k : Int) (m : Dating) : GoodSpans (refSpans n g k m) ∧ ∀ d, inS (refSpans n g k m) d ↔ ∃ i, i < n ∧ (g i).Class = k ∧ (g i).In.From ≤ d ∧ d < (g i).In.Until ∧ d < lastF (g i) m + 1 := by
  have hp := List.mergeSort_perm (kept (ownP k) g n) fun a b => decide (a.In.From ≤ b.In.From)
  have hs := List.pairwise_mergeSort (le := fun a b : Rule => decide (a.In.From ≤ b.In.From)) (by intro a b c; simp; omega) (by intro a b; simp; omega) (kept (ownP k) g n)
  generalize (kept (ownP k) g n).mergeSort (fun a b => decide (a.In.From ≤ b.In.From)) = L at hp hs
  have hs' : L.Pairwise fun a b => a.In.From ≤ b.In.From := hs.imp fun h => by simpa using h
  rw [← spans_eq h0 m hp hs']
  obtain ⟨k1, k2⟩ := spansOf_good m L [] ⟨by simp, by simp⟩ (sorted_chain h0 hp hs') (fun r hr => kept_all h0 (hp.mem_iff.1 hr)) (by simp)
  refine ⟨k1, fun d => (k2 d).trans ?_⟩
  constructor
  · rintro (⟨s, hs, _⟩ | ⟨r, hr, h1, h2⟩)
    · simp at hs
    · obtain ⟨i, q1, q2, q3⟩ := mem_kept.1 (hp.mem_iff.1 hr)
      refine ⟨i, q1, by rw [q2]; exact q3, ?_⟩
      rw [q2]
      unfold clSpan at h1 h2
      simp only at h1 h2
      omega
  · rintro ⟨i, q1, q2, q3, q4, q5⟩
    refine .inr ⟨g i, hp.mem_iff.2 (mem_kept.2 ⟨i, q1, rfl, q2⟩), ?_⟩
    unfold clSpan
    simp only
    omega

/-! Opens -/
theorem opensF_out : ∀ (W : List Span) (f : Int), ¬ inS W f → opensF W f = f
  | [], f, _ => rfl
  | s :: W, f, h => by
    have h1 : ¬ (s.From ≤ f ∧ f < s.Until) := fun hc => h ⟨s, by simp, hc⟩
    rw [opensF, if_neg h1]
    exact opensF_out W f fun ⟨x, hx, hc⟩ => h ⟨x, by simp [hx], hc⟩

theorem opensF_in : ∀ (W : List Span) (f : Int), GoodSpans W → (opensF W f = f ∧ ¬ inS W f) ∨ ∃ s ∈ W, (s.From ≤ f ∧ f < s.Until) ∧ opensF W f = s.Until
  | [], f, _ => .inl ⟨rfl, fun ⟨s, hs, _⟩ => by simp at hs⟩
  | s :: W, f, h => by
    obtain ⟨a1, a2⟩ := List.pairwise_cons.1 h.apart
    have hW : GoodSpans W := ⟨fun x hx => h.each x (by simp [hx]), a2⟩
    rw [opensF]
    by_cases hc : s.From ≤ f ∧ f < s.Until
    · rw [if_pos hc]
      refine .inr ⟨s, by simp, hc, opensF_out W _ ?_⟩
      rintro ⟨x, hx, h1, h2⟩
      have := a1 x hx
      omega
    · rw [if_neg hc]
      rcases opensF_in W f hW with ⟨h1, h2⟩ | ⟨x, hx, h1, h2⟩
      · refine .inl ⟨h1, ?_⟩
        rintro ⟨x, hx, h3⟩
        rcases List.mem_cons.1 hx with rfl | hx
        · exact hc h3
        · exact h2 ⟨x, hx, h3⟩
      · exact .inr ⟨x, by simp [hx], h1, h2⟩

/-- two spans that hold one day are one -/
theorem good_one {W : List Span} (h : GoodSpans W) {a b : Span} (ha : a ∈ W) (hb : b ∈ W) {d : Int} (h1 : a.From ≤ d ∧ d < a.Until) (h2 : b.From ≤ d ∧ d ≤ b.Until) : a = b := by
  obtain ⟨i, hi, rfl⟩ := List.getElem_of_mem ha
  obtain ⟨j, hj, rfl⟩ := List.getElem_of_mem hb
  have hp := List.pairwise_iff_getElem.1 h.apart
  rcases Nat.lt_trichotomy i j with hij | hij | hij
  · have := hp i j hi hj hij; omega
  · subst hij; rfl
  · have := hp j i hj hi hij; omega

theorem opensF_spec {W : List Span} (h : GoodSpans W) {f : Int} (hf : f ≤ 1048576) : f ≤ opensF W f ∧ opensF W f ≤ 1048576 ∧ ¬ inS W (opensF W f) ∧ ∀ d, f ≤ d → d < opensF W f → inS W d := by
  rcases opensF_in W f h with ⟨h1, h2⟩ | ⟨s, hs, h1, h2⟩
  · rw [h1]; exact ⟨by omega, hf, h2, fun d _ _ => by omega⟩
  · rw [h2]
    have := h.each s hs
    refine ⟨by omega, by omega, ?_, fun d h3 h4 => ⟨s, hs, by omega⟩⟩
    rintro ⟨x, hx, h3⟩
    have := good_one h hx hs h3 ⟨by omega, by omega⟩
    subst this
    omega

end Go.Proofs.YtkochmppmpmddaaGreat

/-! Bo -/
namespace Go.Proofs.YtkochmppmpmddaaGreat
open Go.Abs Go.Arch
set_option linter.unusedVariables false
set_option linter.unusedSimpArgs false
set_option maxRecDepth 100000
set_option maxHeartbeats 400000

theorem asked_zero {n : Nat} {g : Nat → Rule} {k : Int} {m : Dating} {d : Int} (h : askedR n g k m d = 0) : check n g = 0 ∧ datChk m = 0 ∧ 1 ≤ k ∧ k ≤ 999 ∧ 0 ≤ d ∧ d ≤ 1048575 := by
  unfold askedR at h
  split at h
  · omega
  · split at h
    · omega
    · omega
theorem refSpansR_asked (n : Nat) (g : Nat → Rule) (k : Int) (m : Dating) : refSpansR n g k m = if askedR n g k m 0 ≠ 0 then ([], askedR n g k m 0) else (refSpans n g k m, 0) := by
  unfold refSpansR askedR
  by_cases h1 : check n g ≠ 0 ∨ datChk m ≠ 0
  · simp only [if_pos h1]; simp
  · simp only [if_neg h1]
    by_cases h2 : k < 1 ∨ 999 < k
    · rw [if_pos h2, if_pos (show k < 1 ∨ 999 < k ∨ (0 : Int) < 0 ∨ (1048575 : Int) < 0 by omega)]; simp
    · rw [if_neg h2, if_neg (show ¬ (k < 1 ∨ 999 < k ∨ (0 : Int) < 0 ∨ (1048575 : Int) < 0) by omega)]; simp
theorem refOpensR_asked (n : Nat) (g : Nat → Rule) (k : Int) (m : Dating) (f : Int) : refOpensR n g k m f = if askedR n g k m f ≠ 0 then (0, askedR n g k m f) else if opensF (refSpans n g k m) f = 1048576 then (0, 23) else (opensF (refSpans n g k m) f, 0) := by
  unfold refOpensR
  by_cases h1 : check n g ≠ 0 ∨ datChk m ≠ 0
  · have e1 : refSpansR n g k m = ([], 1) := by unfold refSpansR; rw [if_pos h1]
    have e2 : askedR n g k m f = 1 := by unfold askedR; rw [if_pos h1]
    simp [e1, e2]
  · by_cases h2 : k < 1 ∨ 999 < k
    · have e1 : refSpansR n g k m = ([], 2) := by unfold refSpansR; rw [if_neg h1, if_pos h2]
      have e2 : askedR n g k m f = 2 := by unfold askedR; rw [if_neg h1, if_pos (by omega)]
      simp [e1, e2]
    · have e1 : refSpansR n g k m = (refSpans n g k m, 0) := by unfold refSpansR; rw [if_neg h1, if_neg h2]
      by_cases h3 : f < 0 ∨ 1048575 < f
      · have e2 : askedR n g k m f = 2 := by unfold askedR; rw [if_neg h1, if_pos (by omega)]
        simp [e1, e2, h3]
      · have e2 : askedR n g k m f = 0 := by unfold askedR; rw [if_neg h1, if_neg (by omega)]
        simp only [e1, e2, if_neg h3]
        have := opensF_spec (refSpans_good (n := n) (g := g) (by omega) k m).1 (f := f) (by omega)
        simp only [ne_eq, not_true_eq_false, if_false]
        by_cases h4 : opensF (refSpans n g k m) f = 1048576
        · rw [if_pos (by omega), if_pos h4]
        · rw [if_neg (by omega), if_neg h4]


theorem closure_Opens_cs (σ : List Blk) (c : Option Nat) (n : Nat) (g : Nat → Rule) (k : Int) (m : Dating) (f : Int) (hn : n < 1000000000) : CSF Tryz.prog 105 [.d (SL c 6 Rule.enc n g), .d (I k), .agg (m.enc.map .d), .d (I f)] σ (.tup [.d (I (refOpensR n g k m f).1), .d (I (refOpensR n g k m f).2)]) := by
  refine CSF.of_body T.en105 Tryz.func105 rfl (by simp [Tryz.ntmps105]) (by simp [go_sem]) fun hwf => ?_
  refine awp_reg_seq fun K hK => ?_
  simp [go_sem, Tryz.ntmps105]
  repeat refine ⟨by omega, ?_⟩
  refine hK _ ?_; clear hK K
  refine awp_seq ?_
  refine awp_reg_seq fun K hK => ?_
  simp [go_sem]
  repeat refine ⟨by omega, ?_⟩
  refine CSk.mk (closure_asked_cs _ c n g k m f hn) ?_
  simp [go_sem]
  repeat refine ⟨by omega, ?_⟩
  refine hK _ ?_; clear hK K
  refine awp_reg_seq fun K hK => ?_
  simp [go_sem]
  repeat refine ⟨by omega, ?_⟩
  refine hK _ ?_; clear hK K
  refine awp_forget [0, 1, 3, 6, 10, 19] (by simp only [restr, List.contains_cons, List.contains_nil, Nat.reduceBEq, Bool.or_false, Bool.or_true, Bool.true_or, Bool.false_or, if_true, if_false, Bool.false_eq_true]; rfl) ?_
  refine awp_cond rfl (fun c0 => ?_) (fun c0 => ?_)
  · have d0 := c0; try simp at d0
    have hz : refOpensR n g k m f = (0, askedR n g k m f) := by rw [refOpensR_asked, if_pos d0]
    refine awp_reg_seq fun K hK => ?_
    simp [go_sem, c0, d0]
    repeat refine ⟨by omega, ?_⟩
    refine hK _ ?_; clear hK K
    refine awp_ret ?_
    rw [hz]; simp [go_sem, Tryz.results105]
  · have d0 := c0; try simp at d0
    have hz : refOpensR n g k m f = if opensF (refSpans n g k m) f = 1048576 then (0, 23) else (opensF (refSpans n g k m) f, 0) := by rw [refOpensR_asked, if_neg (by simp [d0])]
    have hlen := refLoop_len n g k m 1048577 (nextF g k 0 n) []
    simp only [List.length_nil] at hlen
    have hlen' : (refSpans n g k m).length < 2000000 := by unfold refSpans; omega
    refine awp_skip ?_
    refine awp_seq ?_
    refine awp_reg_seq fun K hK => ?_
    simp [go_sem, c0, d0]
    repeat refine ⟨by omega, ?_⟩
    refine CSk.mk (closure_spans_cs _ c n g k m (asked_zero d0).1) ?_
    simp [go_sem, c0, d0]
    repeat refine ⟨by omega, ?_⟩
    refine hK _ ?_; clear hK K
    refine awp_block ?_
    refine awp_forget [3, 24, 25, 26] (by simp [go_sem, restr]; rfl) ?_
    refine awp_loopU (α := Nat × Int) (fun x => [(3, .d (I x.2)), (26, .d (I x.1))]) (fun x => _) (fun x => x.1 ≤ (refSpans n g k m).length ∧ opensF (refSpans n g k m) f = opensF ((refSpans n g k m).drop x.1) x.2) (fun x => (refSpans n g k m).length - x.1) (0, f) (by simp [go_sem]) rfl (⟨by simp, rfl⟩) ?_
    rintro ⟨i, e⟩ ⟨hi, hx⟩
    dsimp only at hi hx
    refine awp_reg_seq fun K hK => ?_
    simp [go_sem, c0, d0]
    repeat refine ⟨by omega, ?_⟩
    refine hK _ ?_; clear hK K
    refine awp_seq ?_
    refine awp_forget [3, 24, 25, 26, 27] (by simp only [restr, List.contains_cons, List.contains_nil, Nat.reduceBEq, Bool.or_false, Bool.or_true, Bool.true_or, Bool.false_or, if_true, if_false, Bool.false_eq_true]; rfl) ?_
    refine awp_cond rfl (fun c1 => ?_) (fun c1 => ?_)
    · have d1 := c1; try simp at d1
      rw [drop_nth (by omega), opensF] at hx
      refine awp_skip ?_
      refine awp_seq ?_
      refine awp_block ?_
      refine awp_reg_seq fun K hK => ?_
      simp [go_sem, c0, d0, c1, d1]
      repeat refine ⟨by omega, ?_⟩
      refine hK _ ?_; clear hK K
      refine awp_reg_seq fun K hK => ?_
      simp [go_sem, c0, d0, c1, d1]
      repeat refine ⟨by omega, ?_⟩
      refine hK _ ?_; clear hK K
      refine awp_forget [3, 12, 24, 25, 26, 39] (by simp only [restr, List.contains_cons, List.contains_nil, Nat.reduceBEq, Bool.or_false, Bool.or_true, Bool.true_or, Bool.false_or, if_true, if_false, Bool.false_eq_true]; rfl) ?_
      refine awp_cond rfl (fun c2 => ?_) (fun c2 => ?_)
      · have d2 := c2; try simp at d2
        refine awp_reg_end fun K hK => ?_
        simp [go_sem, c0, d0, c1, d1, c2, d2]
        repeat refine ⟨by omega, ?_⟩
        refine hK _ ?_; clear hK K
        refine awp_reg_end fun K hK => ?_
        simp [go_sem, c0, d0, c1, d1, c2, d2]
        try simp (disch := omega) only [wrapI]
        repeat refine ⟨by omega, ?_⟩
        refine hK _ ?_; clear hK K
        refine ⟨(i + 1, (nth (refSpans n g k m) i).Until), back_of' (by simp) (.refl _) (by (simp [go_sem, wrap_succ (i := i) (by omega), c0, d0, c1, d1, c2, d2] <;> omega)), ⟨by dsimp only; omega, by rw [hx, if_pos (by simpa using d2)]⟩, by first | omega | (dsimp only; omega)⟩
      · have d2 := c2; try simp at d2
        refine awp_skip ?_
        refine awp_reg_end fun K hK => ?_
        simp [go_sem, c0, d0, c1, d1, c2, d2]
        try simp (disch := omega) only [wrapI]
        repeat refine ⟨by omega, ?_⟩
        refine hK _ ?_; clear hK K
        refine ⟨(i + 1, e), back_of' (by simp) (.refl _) (by (simp [go_sem, wrap_succ (i := i) (by omega), c0, d0, c1, d1, c2, d2] <;> omega)), ⟨by dsimp only; omega, by rw [hx, if_neg (by simpa using d2)]⟩, by first | omega | (dsimp only; omega)⟩
    · have d1 := c1; try simp at d1
      rw [List.drop_eq_nil_iff.2 (by omega), opensF] at hx
      rw [hx] at hz
      refine awp_exit ?_
      refine awp_seq ?_
      refine awp_reg_seq fun K hK => ?_
      simp [go_sem, c0, d0, c1, d1]
      repeat refine ⟨by omega, ?_⟩
      refine hK _ ?_; clear hK K
      refine awp_forget [3, 44] (by simp only [restr, List.contains_cons, List.contains_nil, Nat.reduceBEq, Bool.or_false, Bool.or_true, Bool.true_or, Bool.false_or, if_true, if_false, Bool.false_eq_true]; rfl) ?_
      refine awp_cond rfl (fun c3 => ?_) (fun c3 => ?_)
      · have d3 := c3; try simp at d3
        rw [if_pos d3] at hz
        refine awp_reg_seq fun K hK => ?_
        simp [go_sem, c0, d0, c1, d1, c3, d3]
        repeat refine ⟨by omega, ?_⟩
        refine hK _ ?_; clear hK K
        refine awp_ret ?_
        rw [hz]; simp [go_sem, Tryz.results105]
      · have d3 := c3; try simp at d3
        rw [if_neg (by omega)] at hz
        refine awp_skip ?_
        refine awp_reg_seq fun K hK => ?_
        simp [go_sem, c0, d0, c1, d1, c3, d3]
        repeat refine ⟨by omega, ?_⟩
        refine hK _ ?_; clear hK K
        refine awp_ret ?_
        rw [hz]; simp [go_sem, Tryz.results105]

end Go.Proofs.YtkochmppmpmddaaGreat
