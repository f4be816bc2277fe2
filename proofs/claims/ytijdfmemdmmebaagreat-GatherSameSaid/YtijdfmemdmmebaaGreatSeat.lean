/-
  Texts of the proof, joined by program: AmTrGs. Own work.
-/
import Derived.Test.YtijdfmemdmmebaaGreatFns
import Derived.Test.YtijdfmemdmmebaaGreatOpsC
import Derived.Test.YtijdfmemdmmebaaGreatRows
set_option linter.unusedSimpArgs false
set_option linter.unusedVariables false
set_option maxRecDepth 100000
namespace Go.AM
open Go.Proofs
/-! tables of the seat: printed by program -/
def fnumL : List Nat := [0, 1, 2, 75, 5, 77, 78, 79, 13, 8, 12, 7, 14, 10, 9, 83, 84, 85, 86, 87, 88, 89, 90, 91, 92, 93, 94, 95, 15, 27, 24, 16, 17, 18, 19, 20, 21, 22, 23, 25, 26, 113, 114, 115, 116, 117, 118, 119, 120, 121, 122, 123, 124, 125, 126, 127, 128, 129, 130, 131, 41, 37, 38, 28, 29, 30, 31, 32, 33, 34, 35, 36, 39, 40, 161, 162, 163, 164, 165, 166, 52, 42, 43, 44, 45, 46, 47, 48, 49, 50, 51, 198, 199, 200, 201, 202, 53, 54, 55, 56, 57, 235, 236, 237, 238, 58, 270, 271, 282, 283, 284, 285, 59, 60, 61, 62, 63, 64, 65, 66, 67, 68, 69, 70, 71, 72, 73, 74]
def tnumL : List (Nat × Nat) := [(9, 9)]
noncomputable def X0 : TrEnv := ⟨Tryz.prog, fun F => fnumL[F]?, fun t => (tnumL.find? (·.1 == t)).map (·.2)⟩
theorem tr75 : trFunc X0 ⟨[], [], [], [(10, [4, 5, 8, 7])], [], [], [], [], [], 0⟩ Tryz.f3 = some f75 := by kernel_rfl
theorem tr5 : trFunc X0 ⟨[], [], [], [(1, [4, 5, 8, 7]), (4, [4, 5, 8, 7])], [], [(6, 73, 113)], [], [], [], 0⟩ Tryz.f4 = some f5 := by kernel_rfl
theorem tr77 : trFunc X0 ⟨[], [13, 67, 72], [], [(2, [4, 5, 8, 7]), (3, [4, 5, 8, 7]), (20, [1, 0])], [], [], [], [], [], 0⟩ Tryz.f5 = some f77 := by kernel_rfl
theorem tr78 : trFunc X0 ⟨[], [], [(43, 129)], [(14, [4, 5, 8, 7]), (16, [4, 5, 8, 7])], [], [(7, 21, 129), (7, 43, 129)], [], [], [], 0⟩ Tryz.f6 = some f78 := by kernel_rfl
theorem tr79 : trFunc X0 ⟨[], [11, 38], [(212, 100), (333, 101), (371, 101)], [(4, [4, 5, 8, 7]), (5, [4, 5, 0, 0]), (210, [0, 2, 0, 0, 0, 0, 0, 0]), (373, [4, 5, 8, 7])], [], [], [], [], [], 0⟩ Tryz.f7 = some f79 := by kernel_rfl
theorem tr13 : trFunc X0 ⟨[], [], [], [(0, [4, 5, 8, 7]), (7, [4, 5, 8, 7])], [], [], [], [], [], 0⟩ Tryz.f8 = some f13 := by kernel_rfl
theorem tr8 : trFunc X0 ⟨[], [], [], [], [], [], [], [], [], 0⟩ Tryz.f9 = some f8 := by kernel_rfl
theorem tr12 : trFunc X0 ⟨[], [], [], [], [], [], [], [], [], 0⟩ Tryz.f10 = some f12 := by kernel_rfl
theorem tr7 : trFunc X0 ⟨[], [31, 71], [], [(6, [4, 5, 8, 7]), (20, [4, 5, 8, 7]), (12, [4, 5, 8, 7])], [], [], [], [], [], 0⟩ Tryz.f11 = some f7 := by kernel_rfl
theorem tr14 : trFunc X0 ⟨[], [], [], [], [], [], [], [], [], 0⟩ Tryz.f12 = some f14 := by kernel_rfl
theorem tr10 : trFunc X0 ⟨[], [], [], [], [], [], [], [], [], 0⟩ Tryz.f13 = some f10 := by kernel_rfl
theorem tr9 : trFunc X0 ⟨[], [], [(59, 145), (82, 97)], [], [(4, 81, 5), (5, 97, 5), (8, 145, 7)], [(8, 59, 145), (5, 82, 97)], [], [], [], 0⟩ Tryz.f14 = some f9 := by kernel_rfl
theorem tr83 : trFunc X0 ⟨[], [143, 180, 204, 207], [], [(2, [4]), (3, [5]), (4, [1]), (5, [1]), (6, [1]), (40, [1, 0]), (105, [1, 0])], [(14, 241, 4)], [(14, 143, 241), (14, 180, 241), (14, 204, 241)], [], [], [], 0⟩ Tryz.f15 = some f83 := by kernel_rfl
theorem tr84 : trFunc X0 ⟨[], [], [], [(4, [1])], [], [], [], [], [], 0⟩ Tryz.f16 = some f84 := by kernel_rfl
theorem tr85 : trFunc X0 ⟨[some 2, none], [], [], [], [], [], [], [], [], 0⟩ Tryz.f17 = some f85 := by kernel_rfl
theorem tr86 : trFunc X0 ⟨[], [31, 50, 61, 69], [], [(2, [8]), (9, [1, 0])], [(4, 81, 8)], [(4, 31, 81), (4, 50, 81), (4, 61, 81), (4, 69, 81)], [], [], [], 0⟩ Tryz.f18 = some f86 := by kernel_rfl
theorem tr87 : trFunc X0 ⟨[], [], [(86, 113)], [(14, [1, 0])], [(4, 81, 7), (6, 113, 7)], [(6, 86, 113)], [], [], [], 0⟩ Tryz.f19 = some f87 := by kernel_rfl
theorem tr88 : trFunc X0 ⟨[], [], [(70, 213), (83, 213)], [(6, [4, 5, 8, 7]), (20, [4, 5, 8, 7]), (12, [4, 5, 8, 0])], [], [], [], [], [], 0⟩ Tryz.f20 = some f88 := by kernel_rfl
theorem tr89 : trFunc X0 ⟨[], [], [], [], [], [], [], [], [], 0⟩ Tryz.f21 = some f89 := by kernel_rfl
theorem tr90 : trFunc X0 ⟨[], [], [], [], [], [], [], [], [], 0⟩ Tryz.f22 = some f90 := by kernel_rfl
theorem tr91 : trFunc X0 ⟨[], [], [], [(4, [5])], [(5, 97, 5)], [(5, 81, 97)], [], [], [], 0⟩ Tryz.f23 = some f91 := by kernel_rfl
theorem tr92 : trFunc X0 ⟨[], [], [(37, 66), (59, 68)], [(2, [4, 5, 8, 7]), (16, [0, 5, 0, 7]), (3, [0, 5, 0, 7]), (5, [0, 2, 0, 0]), (7, [0, 2, 0, 0, 0, 0, 0, 0])], [], [], [], [], [], 0⟩ Tryz.f24 = some f92 := by kernel_rfl
theorem tr93 : trFunc X0 ⟨[], [], [], [], [], [], [], [], [], 0⟩ Tryz.f25 = some f93 := by kernel_rfl
theorem tr94 : trFunc X0 ⟨[], [], [(36, 145), (214, 193), (240, 145)], [(10, [0, 2, 0, 0]), (238, [0, 2, 0, 0])], [(6, 113, 4), (7, 129, 5), (8, 145, 4)], [(8, 36, 145), (11, 39, 193), (8, 188, 145), (11, 214, 193), (8, 240, 145)], [(28, 9)], [35, 36, 188], [6], 0⟩ Tryz.f26 = some f94 := by kernel_rfl
theorem tr95 : trFunc X0 ⟨[], [], [], [], [], [], [], [], [], 0⟩ Tryz.f27 = some f95 := by kernel_rfl
theorem tr15 : trFunc X0 ⟨[], [], [], [], [], [], [], [], [], 0⟩ Tryz.f28 = some f15 := by kernel_rfl
theorem tr27 : trFunc X0 ⟨[], [], [], [], [], [], [], [], [], 0⟩ Tryz.f29 = some f27 := by kernel_rfl
theorem tr24 : trFunc X0 ⟨[], [], [], [], [], [], [], [], [], 0⟩ Tryz.f30 = some f24 := by kernel_rfl
theorem tr16 : trFunc X0 ⟨[], [8, 11, 14, 17], [], [(2, [4, 5, 8, 7]), (18, [4, 5, 8, 7]), (3, [4, 5, 8, 7])], [], [], [], [], [], 0⟩ Tryz.f31 = some f16 := by kernel_rfl
theorem tr17 : trFunc X0 ⟨[], [], [], [], [], [], [], [], [], 0⟩ Tryz.f32 = some f17 := by kernel_rfl
theorem tr18 : trFunc X0 ⟨[some 7, none, none], [], [], [(6, [7])], [], [], [], [], [], 0⟩ Tryz.f33 = some f18 := by kernel_rfl
theorem tr19 : trFunc X0 ⟨[], [], [], [], [], [], [], [], [], 0⟩ Tryz.f34 = some f19 := by kernel_rfl
theorem tr20 : trFunc X0 ⟨[], [], [], [], [], [], [], [], [], 0⟩ Tryz.f35 = some f20 := by kernel_rfl
theorem tr21 : trFunc X0 ⟨[], [], [], [], [], [], [], [], [], 0⟩ Tryz.f36 = some f21 := by kernel_rfl
theorem tr22 : trFunc X0 ⟨[], [], [], [], [], [], [], [], [], 0⟩ Tryz.f37 = some f22 := by kernel_rfl
theorem tr23 : trFunc X0 ⟨[], [], [], [], [], [], [], [], [], 0⟩ Tryz.f38 = some f23 := by kernel_rfl
theorem tr25 : trFunc X0 ⟨[some 5, none], [], [], [], [], [], [], [], [], 0⟩ Tryz.f39 = some f25 := by kernel_rfl
theorem tr26 : trFunc X0 ⟨[], [], [], [], [], [], [], [], [], 0⟩ Tryz.f40 = some f26 := by kernel_rfl
theorem tr113 : trFunc X0 ⟨[some 4, none, none, none, some 2], [], [(31, 17)], [(22, [0, 2, 0, 0]), (11, [0, 2, 0, 0])], [(10, 177, 4)], [], [], [], [], 0⟩ Tryz.f41 = some f113 := by kernel_rfl
theorem tr114 : trFunc X0 ⟨[none, none, some 2], [], [(71, 129), (75, 129)], [(6, [2])], [], [(7, 14, 129), (7, 71, 129)], [], [], [], 0⟩ Tryz.f42 = some f114 := by kernel_rfl
theorem tr115 : trFunc X0 ⟨[], [], [], [], [], [], [], [], [], 0⟩ Tryz.f43 = some f115 := by kernel_rfl
theorem tr116 : trFunc X0 ⟨[], [], [], [], [], [], [], [], [], 0⟩ Tryz.f44 = some f116 := by kernel_rfl
theorem tr117 : trFunc X0 ⟨[some 4, none, none, some 2], [95], [], [(8, [4])], [], [(10, 50, 177), (10, 90, 177)], [], [], [], 0⟩ Tryz.f45 = some f117 := by kernel_rfl
theorem tr118 : trFunc X0 ⟨[], [], [(52, 97)], [(3, [1])], [(2, 49, 5), (5, 97, 5)], [(3, 25, 65), (3, 38, 65), (5, 52, 97)], [], [], [], 0⟩ Tryz.f46 = some f118 := by kernel_rfl
theorem tr119 : trFunc X0 ⟨[some 8, none, none, none, some 2], [], [(84, 195), (90, 195), (122, 17)], [(10, [8])], [], [], [], [], [], 0⟩ Tryz.f47 = some f119 := by kernel_rfl
theorem tr120 : trFunc X0 ⟨[], [], [], [], [], [], [], [], [], 0⟩ Tryz.f48 = some f120 := by kernel_rfl
theorem tr121 : trFunc X0 ⟨[], [], [], [], [], [], [], [], [], 0⟩ Tryz.f49 = some f121 := by kernel_rfl
theorem tr122 : trFunc X0 ⟨[], [], [], [], [], [], [], [], [], 0⟩ Tryz.f50 = some f122 := by kernel_rfl
theorem tr123 : trFunc X0 ⟨[], [], [], [], [], [], [], [], [], 0⟩ Tryz.f51 = some f123 := by kernel_rfl
theorem tr124 : trFunc X0 ⟨[], [], [], [], [], [], [], [], [], 0⟩ Tryz.f52 = some f124 := by kernel_rfl
theorem tr125 : trFunc X0 ⟨[], [], [], [], [], [], [], [], [], 0⟩ Tryz.f53 = some f125 := by kernel_rfl
theorem tr126 : trFunc X0 ⟨[], [], [], [], [], [], [], [], [], 0⟩ Tryz.f54 = some f126 := by kernel_rfl
theorem tr127 : trFunc X0 ⟨[], [], [], [], [], [], [], [], [], 0⟩ Tryz.f55 = some f127 := by kernel_rfl
theorem tr128 : trFunc X0 ⟨[], [], [], [], [], [], [], [], [], 0⟩ Tryz.f56 = some f128 := by kernel_rfl
theorem tr129 : trFunc X0 ⟨[], [], [], [], [], [], [], [], [], 0⟩ Tryz.f57 = some f129 := by kernel_rfl
theorem tr130 : trFunc X0 ⟨[], [], [], [(2, [2])], [], [], [], [], [], 0⟩ Tryz.f58 = some f130 := by kernel_rfl
theorem tr131 : trFunc X0 ⟨[], [], [(28, 67)], [(2, [0, 2, 0, 0])], [], [], [], [], [], 0⟩ Tryz.f59 = some f131 := by kernel_rfl
theorem tr41 : trFunc X0 ⟨[], [], [], [], [], [], [], [], [], 0⟩ Tryz.f60 = some f41 := by kernel_rfl
theorem tr37 : trFunc X0 ⟨[], [], [], [], [], [], [], [], [], 0⟩ Tryz.f61 = some f37 := by kernel_rfl
theorem tr38 : trFunc X0 ⟨[], [], [], [], [], [], [], [], [], 0⟩ Tryz.f62 = some f38 := by kernel_rfl
theorem tr33 : trFunc X0 ⟨[], [], [], [], [], [], [], [], [], 0⟩ Tryz.f68 = some f33 := by kernel_rfl
theorem tr34 : trFunc X0 ⟨[], [], [], [], [], [], [], [], [], 0⟩ Tryz.f69 = some f34 := by kernel_rfl
theorem tr35 : trFunc X0 ⟨[], [], [], [], [], [], [], [], [], 0⟩ Tryz.f70 = some f35 := by kernel_rfl
theorem tr36 : trFunc X0 ⟨[], [], [], [], [], [], [], [], [], 0⟩ Tryz.f71 = some f36 := by kernel_rfl
theorem tr39 : trFunc X0 ⟨[some 5, none, none, none, none], [], [], [], [], [], [], [], [], 0⟩ Tryz.f72 = some f39 := by kernel_rfl
theorem tr40 : trFunc X0 ⟨[], [], [], [], [], [], [], [], [], 0⟩ Tryz.f73 = some f40 := by kernel_rfl
theorem tr161 : trFunc X0 ⟨[], [], [], [], [], [], [], [], [], 0⟩ Tryz.f74 = some f161 := by kernel_rfl
theorem tr162 : trFunc X0 ⟨[], [], [(43, 113)], [(4, [1])], [], [(6, 39, 113)], [], [], [], 0⟩ Tryz.f75 = some f162 := by kernel_rfl
theorem tr163 : trFunc X0 ⟨[], [], [], [], [], [], [], [], [], 0⟩ Tryz.f76 = some f163 := by kernel_rfl
theorem tr164 : trFunc X0 ⟨[], [], [(51, 99), (56, 65)], [], [(2, 49, 4), (3, 65, 4)], [(3, 56, 65)], [], [], [], 0⟩ Tryz.f77 = some f164 := by kernel_rfl
theorem tr165 : trFunc X0 ⟨[], [], [], [], [], [], [], [], [], 0⟩ Tryz.f78 = some f165 := by kernel_rfl
theorem tr166 : trFunc X0 ⟨[], [], [], [], [], [], [], [], [], 0⟩ Tryz.f79 = some f166 := by kernel_rfl
theorem tr42 : trFunc X0 ⟨[some 5, none, none, none], [], [], [], [], [], [], [], [], 0⟩ Tryz.f81 = some f42 := by kernel_rfl
theorem tr43 : trFunc X0 ⟨[some 5, none, none, none], [], [], [], [], [], [], [], [], 0⟩ Tryz.f82 = some f43 := by kernel_rfl
theorem tr44 : trFunc X0 ⟨[some 5, none, none, none], [], [], [], [], [], [], [], [], 0⟩ Tryz.f83 = some f44 := by kernel_rfl
theorem tr45 : trFunc X0 ⟨[], [], [], [], [], [], [], [], [], 0⟩ Tryz.f84 = some f45 := by kernel_rfl
theorem tr46 : trFunc X0 ⟨[some 5, none, none, none], [], [], [], [], [], [], [], [], 0⟩ Tryz.f85 = some f46 := by kernel_rfl
theorem tr47 : trFunc X0 ⟨[some 5, none, none, none], [], [], [], [], [], [], [], [], 0⟩ Tryz.f86 = some f47 := by kernel_rfl
theorem tr48 : trFunc X0 ⟨[some 5, none, none, none, none], [], [], [], [], [], [], [], [], 0⟩ Tryz.f87 = some f48 := by kernel_rfl
theorem tr49 : trFunc X0 ⟨[some 5, none, none, none, none], [], [], [], [], [], [], [], [], 0⟩ Tryz.f88 = some f49 := by kernel_rfl
theorem tr50 : trFunc X0 ⟨[], [], [], [], [], [], [], [], [], 0⟩ Tryz.f89 = some f50 := by kernel_rfl
theorem tr51 : trFunc X0 ⟨[], [], [], [], [], [], [], [], [], 0⟩ Tryz.f90 = some f51 := by kernel_rfl
theorem tr198 : trFunc X0 ⟨[], [], [], [], [], [], [], [], [], 0⟩ Tryz.f91 = some f198 := by kernel_rfl
theorem tr199 : trFunc X0 ⟨[], [], [], [], [], [], [], [], [], 0⟩ Tryz.f92 = some f199 := by kernel_rfl
theorem tr200 : trFunc X0 ⟨[], [], [], [], [], [], [], [], [], 0⟩ Tryz.f93 = some f200 := by kernel_rfl
theorem tr201 : trFunc X0 ⟨[], [], [], [], [], [], [], [], [], 0⟩ Tryz.f94 = some f201 := by kernel_rfl
theorem tr202 : trFunc X0 ⟨[], [], [], [], [], [], [], [], [], 0⟩ Tryz.f95 = some f202 := by kernel_rfl
theorem tr53 : trFunc X0 ⟨[some 5, none, none, none, none], [], [], [], [], [], [], [], [], 0⟩ Tryz.f96 = some f53 := by kernel_rfl
theorem tr54 : trFunc X0 ⟨[], [], [], [], [], [], [], [], [], 0⟩ Tryz.f97 = some f54 := by kernel_rfl
theorem tr55 : trFunc X0 ⟨[some 1], [], [], [], [], [], [], [], [], 0⟩ Tryz.f98 = some f55 := by kernel_rfl
theorem tr56 : trFunc X0 ⟨[none, none, some 1, none], [], [], [], [], [], [], [], [], 0⟩ Tryz.f99 = some f56 := by kernel_rfl
theorem tr57 : trFunc X0 ⟨[none, none, none, none, some 1, none], [], [], [], [], [], [], [], [], 0⟩ Tryz.f100 = some f57 := by kernel_rfl
theorem tr235 : trFunc X0 ⟨[], [], [], [], [], [], [], [], [], 0⟩ Tryz.f101 = some f235 := by kernel_rfl
theorem tr236 : trFunc X0 ⟨[], [], [], [], [], [], [], [], [], 0⟩ Tryz.f102 = some f236 := by kernel_rfl
theorem tr237 : trFunc X0 ⟨[], [], [], [], [], [], [], [], [], 0⟩ Tryz.f103 = some f237 := by kernel_rfl
theorem tr238 : trFunc X0 ⟨[], [], [], [], [], [], [], [], [], 0⟩ Tryz.f104 = some f238 := by kernel_rfl
theorem tr58 : trFunc X0 ⟨[none, none, none, some 1, none], [], [], [], [], [], [], [], [], 0⟩ Tryz.f105 = some f58 := by kernel_rfl
theorem tr270 : trFunc X0 ⟨[], [], [], [], [], [], [], [], [], 0⟩ Tryz.f106 = some f270 := by kernel_rfl
theorem tr271 : trFunc X0 ⟨[], [], [], [], [], [], [], [], [], 0⟩ Tryz.f107 = some f271 := by kernel_rfl
theorem tr282 : trFunc X0 ⟨[], [], [], [], [], [], [], [], [], 0⟩ Tryz.f108 = some f282 := by kernel_rfl
theorem tr283 : trFunc X0 ⟨[], [], [], [], [], [], [], [], [], 0⟩ Tryz.f109 = some f283 := by kernel_rfl
theorem tr284 : trFunc X0 ⟨[], [], [], [], [], [], [], [], [], 0⟩ Tryz.f110 = some f284 := by kernel_rfl
theorem tr285 : trFunc X0 ⟨[], [], [], [], [], [], [], [], [], 0⟩ Tryz.f111 = some f285 := by kernel_rfl
theorem cs28 : CloneShape X0 Tryz.f63 4 2872193639704 := ⟨⟨_, _, _, _, _, _, _, _, rfl, by kernel_rfl, by kernel_rfl, ⟨.agg [.int .i64 0, .nils, .int .i64 0, .int .i64 0], by kernel_rfl, by decide, by kernel_rfl⟩, ⟨_, _, _, 101, rfl, by kernel_rfl, rfl, rfl, rfl, by kernel_rfl⟩⟩, rfl, by decide⟩
theorem cs29 : CloneShape X0 Tryz.f64 5 2469078742875 := ⟨⟨_, _, _, _, _, _, _, _, rfl, by kernel_rfl, by kernel_rfl, ⟨.agg [.int .i64 0, .str [], .str [], .int .i64 0, .int .i64 0], by kernel_rfl, by decide, by kernel_rfl⟩, ⟨_, _, _, 61, rfl, by kernel_rfl, rfl, rfl, rfl, by kernel_rfl⟩⟩, rfl, by decide⟩
theorem cs30 : CloneShape X0 Tryz.f65 8 1450901941607 := ⟨⟨_, _, _, _, _, _, _, _, rfl, by kernel_rfl, by kernel_rfl, ⟨.agg [.int .i64 0, .nils, .int .i64 0, .str [], .str [], .bool false, .int .i64 0, .int .i64 0], by kernel_rfl, by decide, by kernel_rfl⟩, ⟨_, _, _, 74, rfl, by kernel_rfl, rfl, rfl, rfl, by kernel_rfl⟩⟩, rfl, by decide⟩
theorem cs31 : CloneShape X0 Tryz.f66 7 1927910799188 := ⟨⟨_, _, _, _, _, _, _, _, rfl, by kernel_rfl, by kernel_rfl, ⟨.agg [.int .i64 0, .int .i64 0, .int .i64 0, .str [], .str [], .int .i64 0, .int .i64 0], by kernel_rfl, by decide, by kernel_rfl⟩, ⟨_, _, _, 45, rfl, by kernel_rfl, rfl, rfl, rfl, by kernel_rfl⟩⟩, rfl, by decide⟩
theorem cs32 : CloneShape X0 Tryz.f67 2 8278675785407 := ⟨⟨_, _, _, _, _, _, _, _, rfl, by kernel_rfl, by kernel_rfl, ⟨.agg [.int .i64 0, .int .i64 0], by kernel_rfl, by decide, by kernel_rfl⟩, ⟨_, _, _, 43, rfl, by kernel_rfl, rfl, rfl, rfl, by kernel_rfl⟩⟩, rfl, by decide⟩
theorem hinjF : distinctB fnumL = true := by kernel_rfl
theorem hinjT : distinctB (tnumL.map (·.2)) = true := by kernel_rfl
theorem fnFacts : AllFacts X0 envTab := ⟨⟨3, Tryz.f3, _, _, rfl, Tryz.func3, by kernel_rfl, rfl, tr75, by decide +kernel⟩,
  ⟨4, Tryz.f4, _, _, rfl, Tryz.func4, by kernel_rfl, rfl, tr5, by decide +kernel⟩,
  ⟨5, Tryz.f5, _, _, rfl, Tryz.func5, by kernel_rfl, rfl, tr77, by decide +kernel⟩,
  ⟨6, Tryz.f6, _, _, rfl, Tryz.func6, by kernel_rfl, rfl, tr78, by decide +kernel⟩,
  ⟨7, Tryz.f7, _, _, rfl, Tryz.func7, by kernel_rfl, rfl, tr79, by decide +kernel⟩,
  ⟨8, Tryz.f8, _, _, rfl, Tryz.func8, by kernel_rfl, rfl, tr13, by decide +kernel⟩,
  ⟨9, Tryz.f9, _, _, rfl, Tryz.func9, by kernel_rfl, rfl, tr8, by decide +kernel⟩,
  ⟨10, Tryz.f10, _, _, rfl, Tryz.func10, by kernel_rfl, rfl, tr12, by decide +kernel⟩,
  ⟨11, Tryz.f11, _, _, rfl, Tryz.func11, by kernel_rfl, rfl, tr7, by decide +kernel⟩,
  ⟨12, Tryz.f12, _, _, rfl, Tryz.func12, by kernel_rfl, rfl, tr14, by decide +kernel⟩,
  ⟨13, Tryz.f13, _, _, rfl, Tryz.func13, by kernel_rfl, rfl, tr10, by decide +kernel⟩,
  ⟨14, Tryz.f14, _, _, rfl, Tryz.func14, by kernel_rfl, rfl, tr9, by decide +kernel⟩,
  ⟨15, Tryz.f15, _, _, rfl, Tryz.func15, by kernel_rfl, rfl, tr83, by decide +kernel⟩,
  ⟨16, Tryz.f16, _, _, rfl, Tryz.func16, by kernel_rfl, rfl, tr84, by decide +kernel⟩,
  ⟨17, Tryz.f17, _, _, rfl, Tryz.func17, by kernel_rfl, rfl, tr85, by decide +kernel⟩,
  ⟨18, Tryz.f18, _, _, rfl, Tryz.func18, by kernel_rfl, rfl, tr86, by decide +kernel⟩,
  ⟨19, Tryz.f19, _, _, rfl, Tryz.func19, by kernel_rfl, rfl, tr87, by decide +kernel⟩,
  ⟨20, Tryz.f20, _, _, rfl, Tryz.func20, by kernel_rfl, rfl, tr88, by decide +kernel⟩,
  ⟨21, Tryz.f21, _, _, rfl, Tryz.func21, by kernel_rfl, rfl, tr89, by decide +kernel⟩,
  ⟨22, Tryz.f22, _, _, rfl, Tryz.func22, by kernel_rfl, rfl, tr90, by decide +kernel⟩,
  ⟨23, Tryz.f23, _, _, rfl, Tryz.func23, by kernel_rfl, rfl, tr91, by decide +kernel⟩,
  ⟨24, Tryz.f24, _, _, rfl, Tryz.func24, by kernel_rfl, rfl, tr92, by decide +kernel⟩,
  ⟨25, Tryz.f25, _, _, rfl, Tryz.func25, by kernel_rfl, rfl, tr93, by decide +kernel⟩,
  ⟨26, Tryz.f26, _, _, rfl, Tryz.func26, by kernel_rfl, rfl, tr94, by decide +kernel⟩,
  ⟨27, Tryz.f27, _, _, rfl, Tryz.func27, by kernel_rfl, rfl, tr95, by decide +kernel⟩,
  ⟨28, Tryz.f28, _, _, rfl, Tryz.func28, by kernel_rfl, rfl, tr15, by decide +kernel⟩,
  ⟨29, Tryz.f29, _, _, rfl, Tryz.func29, by kernel_rfl, rfl, tr27, by decide +kernel⟩,
  ⟨30, Tryz.f30, _, _, rfl, Tryz.func30, by kernel_rfl, rfl, tr24, by decide +kernel⟩,
  ⟨31, Tryz.f31, _, _, rfl, Tryz.func31, by kernel_rfl, rfl, tr16, by decide +kernel⟩,
  ⟨32, Tryz.f32, _, _, rfl, Tryz.func32, by kernel_rfl, rfl, tr17, by decide +kernel⟩,
  ⟨33, Tryz.f33, _, _, rfl, Tryz.func33, by kernel_rfl, rfl, tr18, by decide +kernel⟩,
  ⟨34, Tryz.f34, _, _, rfl, Tryz.func34, by kernel_rfl, rfl, tr19, by decide +kernel⟩,
  ⟨35, Tryz.f35, _, _, rfl, Tryz.func35, by kernel_rfl, rfl, tr20, by decide +kernel⟩,
  ⟨36, Tryz.f36, _, _, rfl, Tryz.func36, by kernel_rfl, rfl, tr21, by decide +kernel⟩,
  ⟨37, Tryz.f37, _, _, rfl, Tryz.func37, by kernel_rfl, rfl, tr22, by decide +kernel⟩,
  ⟨38, Tryz.f38, _, _, rfl, Tryz.func38, by kernel_rfl, rfl, tr23, by decide +kernel⟩,
  ⟨39, Tryz.f39, _, _, rfl, Tryz.func39, by kernel_rfl, rfl, tr25, by decide +kernel⟩,
  ⟨40, Tryz.f40, _, _, rfl, Tryz.func40, by kernel_rfl, rfl, tr26, by decide +kernel⟩,
  ⟨41, Tryz.f41, _, _, rfl, Tryz.func41, by kernel_rfl, rfl, tr113, by decide +kernel⟩,
  ⟨42, Tryz.f42, _, _, rfl, Tryz.func42, by kernel_rfl, rfl, tr114, by decide +kernel⟩,
  ⟨43, Tryz.f43, _, _, rfl, Tryz.func43, by kernel_rfl, rfl, tr115, by decide +kernel⟩,
  ⟨44, Tryz.f44, _, _, rfl, Tryz.func44, by kernel_rfl, rfl, tr116, by decide +kernel⟩,
  ⟨45, Tryz.f45, _, _, rfl, Tryz.func45, by kernel_rfl, rfl, tr117, by decide +kernel⟩,
  ⟨46, Tryz.f46, _, _, rfl, Tryz.func46, by kernel_rfl, rfl, tr118, by decide +kernel⟩,
  ⟨47, Tryz.f47, _, _, rfl, Tryz.func47, by kernel_rfl, rfl, tr119, by decide +kernel⟩,
  ⟨48, Tryz.f48, _, _, rfl, Tryz.func48, by kernel_rfl, rfl, tr120, by decide +kernel⟩,
  ⟨49, Tryz.f49, _, _, rfl, Tryz.func49, by kernel_rfl, rfl, tr121, by decide +kernel⟩,
  ⟨50, Tryz.f50, _, _, rfl, Tryz.func50, by kernel_rfl, rfl, tr122, by decide +kernel⟩,
  ⟨51, Tryz.f51, _, _, rfl, Tryz.func51, by kernel_rfl, rfl, tr123, by decide +kernel⟩,
  ⟨52, Tryz.f52, _, _, rfl, Tryz.func52, by kernel_rfl, rfl, tr124, by decide +kernel⟩,
  ⟨53, Tryz.f53, _, _, rfl, Tryz.func53, by kernel_rfl, rfl, tr125, by decide +kernel⟩,
  ⟨54, Tryz.f54, _, _, rfl, Tryz.func54, by kernel_rfl, rfl, tr126, by decide +kernel⟩,
  ⟨55, Tryz.f55, _, _, rfl, Tryz.func55, by kernel_rfl, rfl, tr127, by decide +kernel⟩,
  ⟨56, Tryz.f56, _, _, rfl, Tryz.func56, by kernel_rfl, rfl, tr128, by decide +kernel⟩,
  ⟨57, Tryz.f57, _, _, rfl, Tryz.func57, by kernel_rfl, rfl, tr129, by decide +kernel⟩,
  ⟨58, Tryz.f58, _, _, rfl, Tryz.func58, by kernel_rfl, rfl, tr130, by decide +kernel⟩,
  ⟨59, Tryz.f59, _, _, rfl, Tryz.func59, by kernel_rfl, rfl, tr131, by decide +kernel⟩,
  ⟨60, Tryz.f60, _, _, rfl, Tryz.func60, by kernel_rfl, rfl, tr41, by decide +kernel⟩,
  ⟨61, Tryz.f61, _, _, rfl, Tryz.func61, by kernel_rfl, rfl, tr37, by decide +kernel⟩,
  ⟨62, Tryz.f62, _, _, rfl, Tryz.func62, by kernel_rfl, rfl, tr38, by decide +kernel⟩,
  ⟨68, Tryz.f68, _, _, rfl, Tryz.func68, by kernel_rfl, rfl, tr33, by decide +kernel⟩,
  ⟨69, Tryz.f69, _, _, rfl, Tryz.func69, by kernel_rfl, rfl, tr34, by decide +kernel⟩,
  ⟨70, Tryz.f70, _, _, rfl, Tryz.func70, by kernel_rfl, rfl, tr35, by decide +kernel⟩,
  ⟨71, Tryz.f71, _, _, rfl, Tryz.func71, by kernel_rfl, rfl, tr36, by decide +kernel⟩,
  ⟨72, Tryz.f72, _, _, rfl, Tryz.func72, by kernel_rfl, rfl, tr39, by decide +kernel⟩,
  ⟨73, Tryz.f73, _, _, rfl, Tryz.func73, by kernel_rfl, rfl, tr40, by decide +kernel⟩,
  ⟨74, Tryz.f74, _, _, rfl, Tryz.func74, by kernel_rfl, rfl, tr161, by decide +kernel⟩,
  ⟨75, Tryz.f75, _, _, rfl, Tryz.func75, by kernel_rfl, rfl, tr162, by decide +kernel⟩,
  ⟨76, Tryz.f76, _, _, rfl, Tryz.func76, by kernel_rfl, rfl, tr163, by decide +kernel⟩,
  ⟨77, Tryz.f77, _, _, rfl, Tryz.func77, by kernel_rfl, rfl, tr164, by decide +kernel⟩,
  ⟨78, Tryz.f78, _, _, rfl, Tryz.func78, by kernel_rfl, rfl, tr165, by decide +kernel⟩,
  ⟨79, Tryz.f79, _, _, rfl, Tryz.func79, by kernel_rfl, rfl, tr166, by decide +kernel⟩,
  ⟨81, Tryz.f81, _, _, rfl, Tryz.func81, by kernel_rfl, rfl, tr42, by decide +kernel⟩,
  ⟨82, Tryz.f82, _, _, rfl, Tryz.func82, by kernel_rfl, rfl, tr43, by decide +kernel⟩,
  ⟨83, Tryz.f83, _, _, rfl, Tryz.func83, by kernel_rfl, rfl, tr44, by decide +kernel⟩,
  ⟨84, Tryz.f84, _, _, rfl, Tryz.func84, by kernel_rfl, rfl, tr45, by decide +kernel⟩,
  ⟨85, Tryz.f85, _, _, rfl, Tryz.func85, by kernel_rfl, rfl, tr46, by decide +kernel⟩,
  ⟨86, Tryz.f86, _, _, rfl, Tryz.func86, by kernel_rfl, rfl, tr47, by decide +kernel⟩,
  ⟨87, Tryz.f87, _, _, rfl, Tryz.func87, by kernel_rfl, rfl, tr48, by decide +kernel⟩,
  ⟨88, Tryz.f88, _, _, rfl, Tryz.func88, by kernel_rfl, rfl, tr49, by decide +kernel⟩,
  ⟨89, Tryz.f89, _, _, rfl, Tryz.func89, by kernel_rfl, rfl, tr50, by decide +kernel⟩,
  ⟨90, Tryz.f90, _, _, rfl, Tryz.func90, by kernel_rfl, rfl, tr51, by decide +kernel⟩,
  ⟨91, Tryz.f91, _, _, rfl, Tryz.func91, by kernel_rfl, rfl, tr198, by decide +kernel⟩,
  ⟨92, Tryz.f92, _, _, rfl, Tryz.func92, by kernel_rfl, rfl, tr199, by decide +kernel⟩,
  ⟨93, Tryz.f93, _, _, rfl, Tryz.func93, by kernel_rfl, rfl, tr200, by decide +kernel⟩,
  ⟨94, Tryz.f94, _, _, rfl, Tryz.func94, by kernel_rfl, rfl, tr201, by decide +kernel⟩,
  ⟨95, Tryz.f95, _, _, rfl, Tryz.func95, by kernel_rfl, rfl, tr202, by decide +kernel⟩,
  ⟨96, Tryz.f96, _, _, rfl, Tryz.func96, by kernel_rfl, rfl, tr53, by decide +kernel⟩,
  ⟨97, Tryz.f97, _, _, rfl, Tryz.func97, by kernel_rfl, rfl, tr54, by decide +kernel⟩,
  ⟨98, Tryz.f98, _, _, rfl, Tryz.func98, by kernel_rfl, rfl, tr55, by decide +kernel⟩,
  ⟨99, Tryz.f99, _, _, rfl, Tryz.func99, by kernel_rfl, rfl, tr56, by decide +kernel⟩,
  ⟨100, Tryz.f100, _, _, rfl, Tryz.func100, by kernel_rfl, rfl, tr57, by decide +kernel⟩,
  ⟨101, Tryz.f101, _, _, rfl, Tryz.func101, by kernel_rfl, rfl, tr235, by decide +kernel⟩,
  ⟨102, Tryz.f102, _, _, rfl, Tryz.func102, by kernel_rfl, rfl, tr236, by decide +kernel⟩,
  ⟨103, Tryz.f103, _, _, rfl, Tryz.func103, by kernel_rfl, rfl, tr237, by decide +kernel⟩,
  ⟨104, Tryz.f104, _, _, rfl, Tryz.func104, by kernel_rfl, rfl, tr238, by decide +kernel⟩,
  ⟨105, Tryz.f105, _, _, rfl, Tryz.func105, by kernel_rfl, rfl, tr58, by decide +kernel⟩,
  ⟨106, Tryz.f106, _, _, rfl, Tryz.func106, by kernel_rfl, rfl, tr270, by decide +kernel⟩,
  ⟨107, Tryz.f107, _, _, rfl, Tryz.func107, by kernel_rfl, rfl, tr271, by decide +kernel⟩,
  ⟨108, Tryz.f108, _, _, rfl, Tryz.func108, by kernel_rfl, rfl, tr282, by decide +kernel⟩,
  ⟨109, Tryz.f109, _, _, rfl, Tryz.func109, by kernel_rfl, rfl, tr283, by decide +kernel⟩,
  ⟨110, Tryz.f110, _, _, rfl, Tryz.func110, by kernel_rfl, rfl, tr284, by decide +kernel⟩,
  ⟨111, Tryz.f111, _, _, rfl, Tryz.func111, by kernel_rfl, rfl, tr285, by decide +kernel⟩, trivial⟩
theorem hinjX : ∀ t1 t2 k, X0.tnum t1 = some k → X0.tnum t2 = some k → t1 = t2 := (envOk_of (P := Tryz.prog) (fl := fnumL) (tl := tnumL) (tab := []) (ext := []) hinjF hinjT (by kernel_rfl) trivial trivial).inj
theorem extFacts : AllExt X0 envExt := ⟨⟨63, rfl, fun _ _ h => clone_sound hinjX Tryz.func63 (by kernel_rfl) cs28 h⟩,
  ⟨64, rfl, fun _ _ h => clone_sound hinjX Tryz.func64 (by kernel_rfl) cs29 h⟩,
  ⟨65, rfl, fun _ _ h => clone_sound hinjX Tryz.func65 (by kernel_rfl) cs30 h⟩,
  ⟨66, rfl, fun _ _ h => clone_sound hinjX Tryz.func66 (by kernel_rfl) cs31 h⟩,
  ⟨67, rfl, fun _ _ h => clone_sound hinjX Tryz.func67 (by kernel_rfl) cs32 h⟩,
  ⟨80, rfl, fun _ _ h => sqrt_sound Tryz.func80 (by kernel_rfl) (by kernel_rfl) (by kernel_rfl) rfl h⟩, trivial⟩
theorem envOk : EnvOk X0 E := envOk_of (P := Tryz.prog) (fl := fnumL) (tl := tnumL) hinjF hinjT (by kernel_rfl) fnFacts extFacts

end Go.AM
