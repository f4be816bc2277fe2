import Derived.Test.YtnjbmkcbhnkggaaAmFns
import Derived.Test.YtnjbmkcbhnkggaaAmSeat
import Derived.Test.YtnjbmkcbhnkggaaRows
namespace Go.AM
open Go.Proofs
/-! tables of the seat: printed by program -/
def fnumL : List Nat := [0, 1, 2, 3, 4, 5, 6, 7, 8, 9, 10, 11, 12, 13, 14, 15, 16, 17, 18, 19, 20, 21, 22, 23, 24, 25, 26, 27, 28, 29, 30, 31, 32, 33, 34, 35, 36, 37, 38, 39, 40, 41, 42, 43, 44, 45, 46, 47, 48, 49, 50, 51, 52, 53, 54, 55, 56, 57, 58, 59, 60, 61, 62, 63, 64, 65, 66, 67, 68, 69, 70, 71, 72, 73, 74]
def tnumL : List (Nat × Nat) := [(9, 9)]
noncomputable def X0 : TrEnv := ⟨Try.prog, fun F => fnumL[F]?, fun t => (tnumL.find? (·.1 == t)).map (·.2)⟩
theorem tr3 : trFunc X0 ⟨[], [16], [], 0⟩ Try.f3 = some f3 := by kernel_rfl
theorem tr4 : trFunc X0 ⟨[], [21], [], 0⟩ Try.f4 = some f4 := by kernel_rfl
theorem tr5 : trFunc X0 ⟨[], [], [], 0⟩ Try.f5 = some f5 := by kernel_rfl
theorem tr6 : trFunc X0 ⟨[], [], [(40, 69)], 0⟩ Try.f6 = some f6 := by kernel_rfl
theorem tr7 : trFunc X0 ⟨[], [31, 71], [], 0⟩ Try.f7 = some f7 := by kernel_rfl
theorem tr8 : trFunc X0 ⟨[], [], [], 0⟩ Try.f8 = some f8 := by kernel_rfl
theorem tr9 : trFunc X0 ⟨[], [], [(59, 145), (82, 97)], 0⟩ Try.f9 = some f9 := by kernel_rfl
theorem tr10 : trFunc X0 ⟨[], [], [], 0⟩ Try.f10 = some f10 := by kernel_rfl
theorem tr11 : trFunc X0 ⟨[], [], [], 0⟩ Try.f11 = some f11 := by kernel_rfl
theorem tr12 : trFunc X0 ⟨[], [], [], 0⟩ Try.f12 = some f12 := by kernel_rfl
theorem tr13 : trFunc X0 ⟨[], [], [], 0⟩ Try.f13 = some f13 := by kernel_rfl
theorem tr14 : trFunc X0 ⟨[], [], [], 0⟩ Try.f14 = some f14 := by kernel_rfl
theorem tr15 : trFunc X0 ⟨[], [], [], 0⟩ Try.f15 = some f15 := by kernel_rfl
theorem tr16 : trFunc X0 ⟨[], [8, 11, 14, 17], [], 0⟩ Try.f16 = some f16 := by kernel_rfl
theorem tr17 : trFunc X0 ⟨[], [], [], 0⟩ Try.f17 = some f17 := by kernel_rfl
theorem tr18 : trFunc X0 ⟨[some 7, none, none], [], [], 0⟩ Try.f18 = some f18 := by kernel_rfl
theorem tr19 : trFunc X0 ⟨[], [], [], 0⟩ Try.f19 = some f19 := by kernel_rfl
theorem tr20 : trFunc X0 ⟨[], [], [], 0⟩ Try.f20 = some f20 := by kernel_rfl
theorem tr21 : trFunc X0 ⟨[], [], [], 0⟩ Try.f21 = some f21 := by kernel_rfl
theorem tr22 : trFunc X0 ⟨[], [], [], 0⟩ Try.f22 = some f22 := by kernel_rfl
theorem tr23 : trFunc X0 ⟨[], [], [], 0⟩ Try.f23 = some f23 := by kernel_rfl
theorem tr24 : trFunc X0 ⟨[], [], [], 0⟩ Try.f24 = some f24 := by kernel_rfl
theorem tr25 : trFunc X0 ⟨[some 5, none], [], [], 0⟩ Try.f25 = some f25 := by kernel_rfl
theorem tr26 : trFunc X0 ⟨[], [], [], 0⟩ Try.f26 = some f26 := by kernel_rfl
theorem tr27 : trFunc X0 ⟨[], [], [], 0⟩ Try.f27 = some f27 := by kernel_rfl
theorem tr33 : trFunc X0 ⟨[], [], [], 0⟩ Try.f33 = some f33 := by kernel_rfl
theorem tr34 : trFunc X0 ⟨[], [], [], 0⟩ Try.f34 = some f34 := by kernel_rfl
theorem tr35 : trFunc X0 ⟨[], [], [], 0⟩ Try.f35 = some f35 := by kernel_rfl
theorem tr36 : trFunc X0 ⟨[], [], [], 0⟩ Try.f36 = some f36 := by kernel_rfl
theorem tr37 : trFunc X0 ⟨[], [], [], 0⟩ Try.f37 = some f37 := by kernel_rfl
theorem tr38 : trFunc X0 ⟨[], [], [], 0⟩ Try.f38 = some f38 := by kernel_rfl
theorem tr39 : trFunc X0 ⟨[some 5, none, none, none, none], [], [], 0⟩ Try.f39 = some f39 := by kernel_rfl
theorem tr40 : trFunc X0 ⟨[], [], [], 0⟩ Try.f40 = some f40 := by kernel_rfl
theorem tr41 : trFunc X0 ⟨[], [], [], 0⟩ Try.f41 = some f41 := by kernel_rfl
theorem tr42 : trFunc X0 ⟨[some 5, none, none, none], [], [], 0⟩ Try.f42 = some f42 := by kernel_rfl
theorem tr43 : trFunc X0 ⟨[some 5, none, none, none], [], [], 0⟩ Try.f43 = some f43 := by kernel_rfl
theorem tr44 : trFunc X0 ⟨[some 5, none, none, none], [], [], 0⟩ Try.f44 = some f44 := by kernel_rfl
theorem tr45 : trFunc X0 ⟨[], [], [], 0⟩ Try.f45 = some f45 := by kernel_rfl
theorem tr46 : trFunc X0 ⟨[some 5, none, none, none], [], [], 0⟩ Try.f46 = some f46 := by kernel_rfl
theorem tr47 : trFunc X0 ⟨[some 5, none, none, none], [], [], 0⟩ Try.f47 = some f47 := by kernel_rfl
theorem tr48 : trFunc X0 ⟨[some 5, none, none, none, none], [], [], 0⟩ Try.f48 = some f48 := by kernel_rfl
theorem tr49 : trFunc X0 ⟨[some 5, none, none, none, none], [], [], 0⟩ Try.f49 = some f49 := by kernel_rfl
theorem tr50 : trFunc X0 ⟨[], [], [], 0⟩ Try.f50 = some f50 := by kernel_rfl
theorem tr51 : trFunc X0 ⟨[], [], [], 0⟩ Try.f51 = some f51 := by kernel_rfl
theorem tr53 : trFunc X0 ⟨[some 5, none, none, none, none], [], [], 0⟩ Try.f53 = some f53 := by kernel_rfl
theorem tr54 : trFunc X0 ⟨[], [], [], 0⟩ Try.f54 = some f54 := by kernel_rfl
theorem tr55 : trFunc X0 ⟨[some 1], [], [], 0⟩ Try.f55 = some f55 := by kernel_rfl
theorem tr56 : trFunc X0 ⟨[none, none, some 1, none], [], [], 0⟩ Try.f56 = some f56 := by kernel_rfl
theorem tr57 : trFunc X0 ⟨[none, none, none, none, some 1, none], [], [], 0⟩ Try.f57 = some f57 := by kernel_rfl
theorem tr58 : trFunc X0 ⟨[none, none, none, some 1, none], [], [], 0⟩ Try.f58 = some f58 := by kernel_rfl
theorem cs28 : CloneShape X0 Try.f28 4 2872193639704 := ⟨⟨_, _, _, _, _, _, _, _, rfl, by kernel_rfl, by kernel_rfl, ⟨.agg [.int .i64 0, .nils, .int .i64 0, .int .i64 0], by kernel_rfl, by decide, by kernel_rfl⟩, ⟨_, _, _, 69, rfl, by kernel_rfl, rfl, rfl, rfl, by kernel_rfl⟩⟩, rfl, by decide⟩
theorem cs29 : CloneShape X0 Try.f29 5 2469078742875 := ⟨⟨_, _, _, _, _, _, _, _, rfl, by kernel_rfl, by kernel_rfl, ⟨.agg [.int .i64 0, .str [], .str [], .int .i64 0, .int .i64 0], by kernel_rfl, by decide, by kernel_rfl⟩, ⟨_, _, _, 72, rfl, by kernel_rfl, rfl, rfl, rfl, by kernel_rfl⟩⟩, rfl, by decide⟩
theorem cs30 : CloneShape X0 Try.f30 8 1450901941607 := ⟨⟨_, _, _, _, _, _, _, _, rfl, by kernel_rfl, by kernel_rfl, ⟨.agg [.int .i64 0, .nils, .int .i64 0, .str [], .str [], .bool false, .int .i64 0, .int .i64 0], by kernel_rfl, by decide, by kernel_rfl⟩, ⟨_, _, _, 75, rfl, by kernel_rfl, rfl, rfl, rfl, by kernel_rfl⟩⟩, rfl, by decide⟩
theorem cs31 : CloneShape X0 Try.f31 7 1927910799188 := ⟨⟨_, _, _, _, _, _, _, _, rfl, by kernel_rfl, by kernel_rfl, ⟨.agg [.int .i64 0, .int .i64 0, .int .i64 0, .str [], .str [], .int .i64 0, .int .i64 0], by kernel_rfl, by decide, by kernel_rfl⟩, ⟨_, _, _, 33, rfl, by kernel_rfl, rfl, rfl, rfl, by kernel_rfl⟩⟩, rfl, by decide⟩
theorem cs32 : CloneShape X0 Try.f32 2 8278675785407 := ⟨⟨_, _, _, _, _, _, _, _, rfl, by kernel_rfl, by kernel_rfl, ⟨.agg [.int .i64 0, .int .i64 0], by kernel_rfl, by decide, by kernel_rfl⟩, ⟨_, _, _, 31, rfl, by kernel_rfl, rfl, rfl, rfl, by kernel_rfl⟩⟩, rfl, by decide⟩
theorem hinjF : distinctB fnumL = true := by kernel_rfl
theorem hinjT : distinctB (tnumL.map (·.2)) = true := by kernel_rfl
theorem fnFacts : AllFacts X0 envTab := ⟨⟨3, Try.f3, _, _, rfl, Try.func3, by kernel_rfl, rfl, tr3, by decide +kernel⟩,
  ⟨4, Try.f4, _, _, rfl, Try.func4, by kernel_rfl, rfl, tr4, by decide +kernel⟩,
  ⟨5, Try.f5, _, _, rfl, Try.func5, by kernel_rfl, rfl, tr5, by decide +kernel⟩,
  ⟨6, Try.f6, _, _, rfl, Try.func6, by kernel_rfl, rfl, tr6, by decide +kernel⟩,
  ⟨7, Try.f7, _, _, rfl, Try.func7, by kernel_rfl, rfl, tr7, by decide +kernel⟩,
  ⟨8, Try.f8, _, _, rfl, Try.func8, by kernel_rfl, rfl, tr8, by decide +kernel⟩,
  ⟨9, Try.f9, _, _, rfl, Try.func9, by kernel_rfl, rfl, tr9, by decide +kernel⟩,
  ⟨10, Try.f10, _, _, rfl, Try.func10, by kernel_rfl, rfl, tr10, by decide +kernel⟩,
  ⟨11, Try.f11, _, _, rfl, Try.func11, by kernel_rfl, rfl, tr11, by decide +kernel⟩,
  ⟨12, Try.f12, _, _, rfl, Try.func12, by kernel_rfl, rfl, tr12, by decide +kernel⟩,
  ⟨13, Try.f13, _, _, rfl, Try.func13, by kernel_rfl, rfl, tr13, by decide +kernel⟩,
  ⟨14, Try.f14, _, _, rfl, Try.func14, by kernel_rfl, rfl, tr14, by decide +kernel⟩,
  ⟨15, Try.f15, _, _, rfl, Try.func15, by kernel_rfl, rfl, tr15, by decide +kernel⟩,
  ⟨16, Try.f16, _, _, rfl, Try.func16, by kernel_rfl, rfl, tr16, by decide +kernel⟩,
  ⟨17, Try.f17, _, _, rfl, Try.func17, by kernel_rfl, rfl, tr17, by decide +kernel⟩,
  ⟨18, Try.f18, _, _, rfl, Try.func18, by kernel_rfl, rfl, tr18, by decide +kernel⟩,
  ⟨19, Try.f19, _, _, rfl, Try.func19, by kernel_rfl, rfl, tr19, by decide +kernel⟩,
  ⟨20, Try.f20, _, _, rfl, Try.func20, by kernel_rfl, rfl, tr20, by decide +kernel⟩,
  ⟨21, Try.f21, _, _, rfl, Try.func21, by kernel_rfl, rfl, tr21, by decide +kernel⟩,
  ⟨22, Try.f22, _, _, rfl, Try.func22, by kernel_rfl, rfl, tr22, by decide +kernel⟩,
  ⟨23, Try.f23, _, _, rfl, Try.func23, by kernel_rfl, rfl, tr23, by decide +kernel⟩,
  ⟨24, Try.f24, _, _, rfl, Try.func24, by kernel_rfl, rfl, tr24, by decide +kernel⟩,
  ⟨25, Try.f25, _, _, rfl, Try.func25, by kernel_rfl, rfl, tr25, by decide +kernel⟩,
  ⟨26, Try.f26, _, _, rfl, Try.func26, by kernel_rfl, rfl, tr26, by decide +kernel⟩,
  ⟨27, Try.f27, _, _, rfl, Try.func27, by kernel_rfl, rfl, tr27, by decide +kernel⟩,
  ⟨33, Try.f33, _, _, rfl, Try.func33, by kernel_rfl, rfl, tr33, by decide +kernel⟩,
  ⟨34, Try.f34, _, _, rfl, Try.func34, by kernel_rfl, rfl, tr34, by decide +kernel⟩,
  ⟨35, Try.f35, _, _, rfl, Try.func35, by kernel_rfl, rfl, tr35, by decide +kernel⟩,
  ⟨36, Try.f36, _, _, rfl, Try.func36, by kernel_rfl, rfl, tr36, by decide +kernel⟩,
  ⟨37, Try.f37, _, _, rfl, Try.func37, by kernel_rfl, rfl, tr37, by decide +kernel⟩,
  ⟨38, Try.f38, _, _, rfl, Try.func38, by kernel_rfl, rfl, tr38, by decide +kernel⟩,
  ⟨39, Try.f39, _, _, rfl, Try.func39, by kernel_rfl, rfl, tr39, by decide +kernel⟩,
  ⟨40, Try.f40, _, _, rfl, Try.func40, by kernel_rfl, rfl, tr40, by decide +kernel⟩,
  ⟨41, Try.f41, _, _, rfl, Try.func41, by kernel_rfl, rfl, tr41, by decide +kernel⟩,
  ⟨42, Try.f42, _, _, rfl, Try.func42, by kernel_rfl, rfl, tr42, by decide +kernel⟩,
  ⟨43, Try.f43, _, _, rfl, Try.func43, by kernel_rfl, rfl, tr43, by decide +kernel⟩,
  ⟨44, Try.f44, _, _, rfl, Try.func44, by kernel_rfl, rfl, tr44, by decide +kernel⟩,
  ⟨45, Try.f45, _, _, rfl, Try.func45, by kernel_rfl, rfl, tr45, by decide +kernel⟩,
  ⟨46, Try.f46, _, _, rfl, Try.func46, by kernel_rfl, rfl, tr46, by decide +kernel⟩,
  ⟨47, Try.f47, _, _, rfl, Try.func47, by kernel_rfl, rfl, tr47, by decide +kernel⟩,
  ⟨48, Try.f48, _, _, rfl, Try.func48, by kernel_rfl, rfl, tr48, by decide +kernel⟩,
  ⟨49, Try.f49, _, _, rfl, Try.func49, by kernel_rfl, rfl, tr49, by decide +kernel⟩,
  ⟨50, Try.f50, _, _, rfl, Try.func50, by kernel_rfl, rfl, tr50, by decide +kernel⟩,
  ⟨51, Try.f51, _, _, rfl, Try.func51, by kernel_rfl, rfl, tr51, by decide +kernel⟩,
  ⟨53, Try.f53, _, _, rfl, Try.func53, by kernel_rfl, rfl, tr53, by decide +kernel⟩,
  ⟨54, Try.f54, _, _, rfl, Try.func54, by kernel_rfl, rfl, tr54, by decide +kernel⟩,
  ⟨55, Try.f55, _, _, rfl, Try.func55, by kernel_rfl, rfl, tr55, by decide +kernel⟩,
  ⟨56, Try.f56, _, _, rfl, Try.func56, by kernel_rfl, rfl, tr56, by decide +kernel⟩,
  ⟨57, Try.f57, _, _, rfl, Try.func57, by kernel_rfl, rfl, tr57, by decide +kernel⟩,
  ⟨58, Try.f58, _, _, rfl, Try.func58, by kernel_rfl, rfl, tr58, by decide +kernel⟩, trivial⟩
theorem hinjX : ∀ t1 t2 k, X0.tnum t1 = some k → X0.tnum t2 = some k → t1 = t2 := (envOk_of (P := Try.prog) (fl := fnumL) (tl := tnumL) (tab := []) (ext := []) hinjF hinjT (by kernel_rfl) trivial trivial).inj
theorem extFacts : AllExt X0 envExt := ⟨⟨28, rfl, fun _ _ h => clone_sound hinjX Try.func28 (by kernel_rfl) cs28 h⟩,
  ⟨29, rfl, fun _ _ h => clone_sound hinjX Try.func29 (by kernel_rfl) cs29 h⟩,
  ⟨30, rfl, fun _ _ h => clone_sound hinjX Try.func30 (by kernel_rfl) cs30 h⟩,
  ⟨31, rfl, fun _ _ h => clone_sound hinjX Try.func31 (by kernel_rfl) cs31 h⟩,
  ⟨32, rfl, fun _ _ h => clone_sound hinjX Try.func32 (by kernel_rfl) cs32 h⟩,
  ⟨52, rfl, fun _ _ h => sqrt_sound Try.func52 (by kernel_rfl) (by kernel_rfl) (by kernel_rfl) rfl h⟩, trivial⟩
theorem envOk : EnvOk X0 E := envOk_of (P := Try.prog) (fl := fnumL) (tl := tnumL) hinjF hinjT (by kernel_rfl) fnFacts extFacts

-- functions: [(3, 3), (4, 4), (5, 5), (6, 6), (7, 7), (8, 8), (9, 9), (10, 10), (11, 11), (12, 12), (13, 13), (14, 14), (15, 15), (16, 16), (17, 17), (18, 18), (19, 19), (20, 20), (21, 21), (22, 22), (23, 23), (24, 24), (25, 25), (26, 26), (27, 27), (33, 33), (34, 34), (35, 35), (36, 36), (37, 37), (38, 38), (39, 39), (40, 40), (41, 41), (42, 42), (43, 43), (44, 44), (45, 45), (46, 46), (47, 47), (48, 48), (49, 49), (50, 50), (51, 51), (53, 53), (54, 54), (55, 55), (56, 56), (57, 57), (58, 58)]
-- ext: [(28, (28, slices.Clone[[]hachure/api.Edge,hachure/api.Edge])), (29, (29, slices.Clone[[]hachure/api.Face,hachure/api.Face])), (30, (30, slices.Clone[[]hachure/api.Way,hachure/api.Way])), (31, (31, slices.Clone[[]hachure/api.Place,hachure/api.Place])), (32, (32, slices.Clone[[]hachure/api.Point,hachure/api.Point])), (52, (52, math.sqrt))]
end Go.AM
