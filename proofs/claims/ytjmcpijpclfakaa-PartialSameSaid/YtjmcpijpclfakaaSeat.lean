/-
  Texts of the proof, joined by program: AmTrPs. Own work.
-/
import Derived.Test.YtjmcpijpclfakaaFns
import Derived.Test.YtjmcpijpclfakaaOpsC
import Derived.Test.YtjmcpijpclfakaaRows
set_option linter.unusedSimpArgs false
set_option linter.unusedVariables false
set_option maxRecDepth 100000
namespace Go.AM
open Go.Proofs
def fnumL : List Nat := [0, 1, 2, 442, 311, 313, 312, 315, 320, 338, 370, 443, 322, 317, 348, 331, 333, 85, 332, 337, 343, 339, 344, 371, 444, 346, 347, 349, 350, 340, 391, 392, 366, 319, 367, 93, 335, 368, 336, 369, 372, 373, 374, 375, 376, 377, 387, 401, 402, 259, 403, 404, 405, 390, 393, 394, 395, 378, 379, 380, 381, 418, 400, 351, 406, 416, 280, 424, 425, 407, 408, 409, 410, 411, 412, 413, 414, 422, 423, 341, 437, 426, 427, 428, 429, 430, 431, 432, 433, 434, 435, 436, 382, 383, 438, 439, 440, 441, 415, 389, 59, 60, 61, 62, 63, 64, 65, 66, 67, 68, 69, 70, 71, 72, 73, 74]
def tnumL : List (Nat × Nat) := [(2, 2), (3, 3), (4, 4), (5, 5), (6, 6), (9, 9), (10, 10), (11, 11), (12, 12), (21, 21), (39, 35)]
noncomputable def X0 : TrEnv := ⟨Try.prog, fun F => fnumL[F]?, fun t => (tnumL.find? (·.1 == t)).map (·.2)⟩
theorem tr442 : trFunc X0 ⟨[], [], [(105, 321)], [(8, [0, 0, 0, 0, 0, 0, 7]), (11, [0, 0, 0, 0, 0, 0, 7])], [], [(10, 37, 177), (19, 87, 321), (19, 105, 321)], [], [], [], [], 0⟩ Try.f3 = some f442 := by kernel_rfl
theorem tr311 : trFunc X0 ⟨[], [], [], [(18, [0, 0, 0, 1])], [], [(3, 19, 65)], [], [], [], [], 0⟩ Try.f4 = some f311 := by kernel_rfl
theorem tr313 : trFunc X0 ⟨[], [], [], [(2, [0, 0, 0, 0, 0, 0, 7]), (5, [1, 0])], [], [], [], [], [], [], 0⟩ Try.f5 = some f313 := by kernel_rfl
theorem tr312 : trFunc X0 ⟨[], [], [], [(6, [1, 0])], [], [], [], [], [], [], 0⟩ Try.f6 = some f312 := by kernel_rfl
theorem tr315 : trFunc X0 ⟨[], [], [(89, 97)], [(36, [0, 0, 0, 1]), (9, [0, 0, 0, 1])], [(4, 81, 4), (5, 97, 4)], [(5, 89, 97)], [], [], [], [], 0⟩ Try.f7 = some f315 := by kernel_rfl
theorem tr320 : trFunc X0 ⟨[], [], [], [(4, [0, 0, 0, 0, 0, 0, 7])], [], [], [], [], [], [], 0⟩ Try.f8 = some f320 := by kernel_rfl
theorem tr338 : trFunc X0 ⟨[], [], [], [], [], [], [], [], [], [], 0⟩ Try.f9 = some f338 := by kernel_rfl
theorem tr370 : trFunc X0 ⟨[], [], [], [(5, [0, 0, 0, 0, 0, 0, 7])], [], [], [], [], [], [], 0⟩ Try.f10 = some f370 := by kernel_rfl
theorem tr443 : trFunc X0 ⟨[], [], [], [], [], [], [], [], [], [], 0⟩ Try.f11 = some f443 := by kernel_rfl
theorem tr322 : trFunc X0 ⟨[], [], [], [], [], [], [], [], [], [], 0⟩ Try.f12 = some f322 := by kernel_rfl
theorem tr317 : trFunc X0 ⟨[], [], [], [(9, [0, 0, 1, 0, 0])], [], [], [], [], [], [], 0⟩ Try.f13 = some f317 := by kernel_rfl
theorem tr348 : trFunc X0 ⟨[], [], [], [], [], [], [], [], [], [], 0⟩ Try.f14 = some f348 := by kernel_rfl
theorem tr331 : trFunc X0 ⟨[], [], [], [(13, [0, 0, 0, 1]), (15, [0, 0, 0, 1]), (16, [0, 0, 0, 1])], [], [(9, 17, 161)], [], [], [], [], 0⟩ Try.f15 = some f331 := by kernel_rfl
theorem tr333 : trFunc X0 ⟨[some 2, none, none], [], [], [(6, [0, 0, 0, 0, 0, 0, 7]), (43, [0, 0, 0, 0, 0, 0, 7]), (65, [0, 0, 0, 0, 0, 0, 7]), (76, [0, 0, 0, 0, 0, 0, 7]), (93, [0, 0, 0, 0, 0, 0, 7]), (105, [0, 0, 0, 0, 0, 0, 7]), (119, [0, 0, 0, 0, 0, 0, 7]), (131, [0, 0, 0, 0, 0, 0, 7])], [], [], [], [], [], [], 0⟩ Try.f16 = some f333 := by kernel_rfl
theorem tr85 : trFunc X0 ⟨[some 2, none], [], [], [], [], [], [], [], [], [], 0⟩ Try.f17 = some f85 := by kernel_rfl
theorem tr332 : trFunc X0 ⟨[], [], [], [(0, [1])], [], [], [], [], [], [], 0⟩ Try.f18 = some f332 := by kernel_rfl
theorem tr337 : trFunc X0 ⟨[], [], [], [], [], [], [], [], [], [], 0⟩ Try.f19 = some f337 := by kernel_rfl
theorem tr343 : trFunc X0 ⟨[], [], [(20, 37)], [(2, [0, 0, 0, 0, 0, 0, 7]), (5, [0, 0, 0, 0, 0, 0, 7])], [], [], [], [], [], [], 0⟩ Try.f20 = some f343 := by kernel_rfl
theorem tr339 : trFunc X0 ⟨[], [16], [], [(26, [0, 0, 1, 0, 0]), (6, [0, 0, 1, 0, 0]), (7, [0, 0, 1, 0, 0]), (9, [0, 0, 0, 1]), (48, [0, 0, 1, 0, 0])], [], [(5, 18, 97)], [], [], [], [2], 0⟩ Try.f21 = some f339 := by kernel_rfl
theorem tr344 : trFunc X0 ⟨[], [], [(120, 69)], [(4, [0, 0, 0, 0, 0, 0, 7]), (7, [0, 0, 0, 0, 0, 0, 7]), (9, [0, 0, 1, 0, 0]), (14, [0, 0, 0, 0, 0, 0, 7])], [], [], [], [], [], [], 0⟩ Try.f22 = some f344 := by kernel_rfl
theorem tr371 : trFunc X0 ⟨[], [], [], [(7, [0, 0, 0, 0, 0, 0, 7])], [], [], [], [], [], [], 0⟩ Try.f23 = some f371 := by kernel_rfl
theorem tr444 : trFunc X0 ⟨[], [], [], [(8, [0, 0, 0, 0, 0, 0, 7]), (9, [0, 0, 0, 0, 0, 0, 7])], [], [], [], [], [], [], 0⟩ Try.f24 = some f444 := by kernel_rfl
theorem tr346 : trFunc X0 ⟨[], [], [], [], [], [], [], [], [], [], 0⟩ Try.f25 = some f346 := by kernel_rfl
theorem tr347 : trFunc X0 ⟨[], [], [], [(10, [0, 0, 0, 0, 0, 0, 7])], [], [], [], [], [], [], 0⟩ Try.f26 = some f347 := by kernel_rfl
theorem tr349 : trFunc X0 ⟨[], [], [], [], [], [], [], [], [], [], 0⟩ Try.f27 = some f349 := by kernel_rfl
theorem tr350 : trFunc X0 ⟨[], [], [], [(2, [0, 0, 1, 0, 0]), (10, [0, 0, 1, 0, 0]), (21, [0, 0, 1, 0, 0])], [], [], [], [], [], [], 0⟩ Try.f28 = some f350 := by kernel_rfl
theorem tr340 : trFunc X0 ⟨[], [], [], [(4, [0, 0, 1, 0, 0]), (5, [0, 0, 1, 0, 0]), (36, [0, 0, 1, 0, 0]), (6, [0, 0, 1, 0, 0])], [], [(7, 78, 129)], [], [], [], [], 0⟩ Try.f29 = some f340 := by kernel_rfl
theorem tr391 : trFunc X0 ⟨[], [], [], [], [], [], [], [], [], [], 0⟩ Try.f30 = some f391 := by kernel_rfl
theorem tr392 : trFunc X0 ⟨[], [], [(23, 97)], [(7, [0, 0, 0, 0, 0, 0, 7])], [(5, 97, 1)], [(5, 23, 97)], [], [], [], [], 0⟩ Try.f31 = some f392 := by kernel_rfl
theorem tr366 : trFunc X0 ⟨[], [], [], [(2, [0, 0, 0, 0, 0, 0, 7]), (3, [0, 0, 0, 0, 0, 0, 7])], [], [], [], [], [], [], 0⟩ Try.f32 = some f366 := by kernel_rfl
theorem tr319 : trFunc X0 ⟨[], [], [], [], [], [], [], [], [], [], 0⟩ Try.f33 = some f319 := by kernel_rfl
theorem tr367 : trFunc X0 ⟨[some 2, none], [], [(22, 97)], [(4, [0, 0, 0, 0, 0, 0, 7]), (30, [0, 0, 0, 0, 0, 0, 7]), (31, [0, 0, 0, 0, 0, 0, 7]), (7, [0, 0, 0, 0, 0, 0, 7])], [(5, 97, 1)], [(5, 22, 97)], [], [], [], [], 0⟩ Try.f34 = some f367 := by kernel_rfl
theorem tr93 : trFunc X0 ⟨[], [], [], [], [], [], [], [], [], [], 0⟩ Try.f35 = some f93 := by kernel_rfl
theorem tr335 : trFunc X0 ⟨[], [], [], [], [], [], [], [], [], [], 0⟩ Try.f36 = some f335 := by kernel_rfl
theorem tr368 : trFunc X0 ⟨[], [], [], [], [], [], [], [], [], [], 0⟩ Try.f37 = some f368 := by kernel_rfl
theorem tr336 : trFunc X0 ⟨[], [], [], [], [], [], [], [], [], [], 0⟩ Try.f38 = some f336 := by kernel_rfl
theorem tr369 : trFunc X0 ⟨[], [], [], [], [], [], [], [], [], [], 0⟩ Try.f39 = some f369 := by kernel_rfl
theorem tr372 : trFunc X0 ⟨[some 4, none], [], [], [(4, [4]), (7, [0, 0, 0, 1])], [], [], [], [], [], [], 0⟩ Try.f40 = some f372 := by kernel_rfl
theorem tr374 : trFunc X0 ⟨[], [], [], [], [], [], [], [], [], [], 0⟩ Try.f42 = some f374 := by kernel_rfl
theorem tr375 : trFunc X0 ⟨[], [], [], [(7, [0, 0, 0, 0, 0, 0, 7])], [], [], [], [], [], [], 0⟩ Try.f43 = some f375 := by kernel_rfl
theorem tr376 : trFunc X0 ⟨[], [], [(37, 68)], [(2, [0, 0, 1, 0, 0])], [], [], [], [], [], [], 0⟩ Try.f44 = some f376 := by kernel_rfl
theorem tr377 : trFunc X0 ⟨[], [], [], [(0, [0, 0, 1, 0, 0]), (1, [0, 0, 1, 0, 0])], [], [], [], [], [], [], 0⟩ Try.f45 = some f377 := by kernel_rfl
theorem tr387 : trFunc X0 ⟨[], [], [], [(6, [0, 0, 0, 0, 0, 0, 7]), (8, [0, 0, 1, 0, 0]), (17, [0, 0, 0, 0, 0, 0, 7]), (9, [0, 0, 0, 0, 0, 0, 7]), (29, [0, 0, 0, 0, 0, 0, 7])], [], [], [], [], [], [], 0⟩ Try.f46 = some f387 := by kernel_rfl
theorem tr401 : trFunc X0 ⟨[], [], [], [], [], [], [], [], [], [], 0⟩ Try.f47 = some f401 := by kernel_rfl
theorem tr402 : trFunc X0 ⟨[], [], [], [], [], [], [], [], [], [], 0⟩ Try.f48 = some f402 := by kernel_rfl
theorem tr259 : trFunc X0 ⟨[], [], [], [], [], [], [], [], [], [], 0⟩ Try.f49 = some f259 := by kernel_rfl
theorem tr403 : trFunc X0 ⟨[], [], [], [], [], [], [], [], [], [], 0⟩ Try.f50 = some f403 := by kernel_rfl
theorem tr404 : trFunc X0 ⟨[], [], [], [], [], [], [], [], [], [], 0⟩ Try.f51 = some f404 := by kernel_rfl
theorem tr405 : trFunc X0 ⟨[], [], [], [], [], [], [], [], [], [], 0⟩ Try.f52 = some f405 := by kernel_rfl
theorem tr390 : trFunc X0 ⟨[], [], [], [], [], [], [], [], [], [], 0⟩ Try.f53 = some f390 := by kernel_rfl
theorem tr393 : trFunc X0 ⟨[], [], [], [], [], [], [], [], [], [], 0⟩ Try.f54 = some f393 := by kernel_rfl
theorem tr394 : trFunc X0 ⟨[], [], [], [(0, [0, 0, 1, 0, 0]), (1, [0, 0, 1, 0, 0])], [], [], [], [], [], [], 0⟩ Try.f55 = some f394 := by kernel_rfl
theorem tr395 : trFunc X0 ⟨[], [], [], [(0, [0, 0, 1, 0, 0]), (1, [0, 0, 1, 0, 0])], [], [], [], [], [], [], 0⟩ Try.f56 = some f395 := by kernel_rfl
theorem tr378 : trFunc X0 ⟨[], [33], [(48, 97)], [(4, [0, 0, 1, 0, 0]), (21, [0, 0, 1, 0, 0]), (30, [0, 0, 1, 0, 0]), (51, [0, 0, 1, 0, 0])], [], [(5, 33, 97), (5, 48, 97)], [], [], [], [], 0⟩ Try.f57 = some f378 := by kernel_rfl
theorem tr379 : trFunc X0 ⟨[], [], [], [(0, [2])], [], [], [], [], [], [], 0⟩ Try.f58 = some f379 := by kernel_rfl
theorem tr380 : trFunc X0 ⟨[], [], [], [], [], [], [], [], [], [], 0⟩ Try.f59 = some f380 := by kernel_rfl
theorem tr381 : trFunc X0 ⟨[], [], [], [], [], [], [], [], [], [], 0⟩ Try.f60 = some f381 := by kernel_rfl
theorem tr418 : trFunc X0 ⟨[], [], [], [], [], [], [], [], [], [], 0⟩ Try.f61 = some f418 := by kernel_rfl
theorem tr400 : trFunc X0 ⟨[], [], [], [(2, [0, 0, 0, 0, 0, 0, 7]), (13, [0, 0, 0, 0, 0, 0, 7]), (21, [0, 0, 0, 0, 0, 0, 7]), (23, [1, 0]), (7, [0, 0, 0, 0, 0, 0, 7]), (39, [0, 0, 0, 0, 0, 0, 7]), (47, [0, 0, 0, 0, 0, 0, 7])], [], [], [], [], [], [], 0⟩ Try.f62 = some f400 := by kernel_rfl
theorem tr351 : trFunc X0 ⟨[], [], [], [], [], [], [], [], [], [], 0⟩ Try.f63 = some f351 := by kernel_rfl
theorem tr406 : trFunc X0 ⟨[], [], [], [], [], [], [], [], [], [], 0⟩ Try.f64 = some f406 := by kernel_rfl
theorem tr416 : trFunc X0 ⟨[], [], [], [], [], [], [], [], [], [], 0⟩ Try.f65 = some f416 := by kernel_rfl
theorem tr280 : trFunc X0 ⟨[], [], [], [], [], [], [], [], [], [], 0⟩ Try.f66 = some f280 := by kernel_rfl
theorem tr424 : trFunc X0 ⟨[], [], [], [], [], [], [], [], [], [], 0⟩ Try.f67 = some f424 := by kernel_rfl
theorem tr425 : trFunc X0 ⟨[], [], [], [], [], [], [], [], [], [], 0⟩ Try.f68 = some f425 := by kernel_rfl
theorem tr408 : trFunc X0 ⟨[], [], [], [(4, [0, 0, 1, 0, 0]), (15, [0, 0, 1, 0, 0])], [], [], [], [], [], [], 0⟩ Try.f70 = some f408 := by kernel_rfl
theorem tr409 : trFunc X0 ⟨[], [], [], [(4, [0, 0, 1, 0, 0]), (15, [0, 0, 1, 0, 0])], [], [], [], [], [], [], 0⟩ Try.f71 = some f409 := by kernel_rfl
theorem tr410 : trFunc X0 ⟨[], [], [], [(4, [0, 0, 1, 0, 0])], [], [], [], [], [], [], 0⟩ Try.f72 = some f410 := by kernel_rfl
theorem tr411 : trFunc X0 ⟨[], [], [], [(4, [0, 0, 1, 0, 0])], [], [], [], [], [], [], 0⟩ Try.f73 = some f411 := by kernel_rfl
theorem tr412 : trFunc X0 ⟨[], [], [], [(4, [0, 0, 1, 0, 0]), (17, [0, 0, 1, 0, 0])], [], [], [], [], [], [], 0⟩ Try.f74 = some f412 := by kernel_rfl
theorem tr413 : trFunc X0 ⟨[], [], [], [(4, [0, 0, 1, 0, 0]), (17, [0, 0, 1, 0, 0])], [], [], [], [], [], [], 0⟩ Try.f75 = some f413 := by kernel_rfl
theorem tr414 : trFunc X0 ⟨[], [], [], [(4, [0, 0, 1, 0, 0]), (35, [0, 0, 1, 0, 0])], [], [(5, 30, 97)], [], [], [], [], 0⟩ Try.f76 = some f414 := by kernel_rfl
theorem tr422 : trFunc X0 ⟨[], [], [(23, 81)], [], [(2, 49, 1), (4, 81, 1)], [(4, 23, 81)], [], [], [], [], 0⟩ Try.f77 = some f422 := by kernel_rfl
theorem tr423 : trFunc X0 ⟨[some 2], [], [], [(2, [0, 0, 0, 0, 0, 0, 7]), (11, [0, 0, 0, 0, 0, 0, 7]), (20, [0, 0, 0, 0, 0, 0, 7]), (3, [0, 0, 0, 0, 0, 0, 7]), (4, [0, 0, 0, 0, 0, 0, 7]), (39, [0, 0, 0, 0, 0, 0, 7]), (5, [0, 0, 0, 0, 0, 0, 7]), (59, [0, 0, 0, 0, 0, 0, 7])], [], [], [], [], [], [], 0⟩ Try.f78 = some f423 := by kernel_rfl
theorem tr341 : trFunc X0 ⟨[], [], [], [], [], [], [], [], [], [], 0⟩ Try.f79 = some f341 := by kernel_rfl
theorem tr437 : trFunc X0 ⟨[], [], [], [], [], [], [], [], [], [], 0⟩ Try.f80 = some f437 := by kernel_rfl
theorem tr426 : trFunc X0 ⟨[], [], [], [], [], [], [], [], [], [], 0⟩ Try.f81 = some f426 := by kernel_rfl
theorem tr427 : trFunc X0 ⟨[], [], [], [], [], [], [], [], [], [], 0⟩ Try.f82 = some f427 := by kernel_rfl
theorem tr428 : trFunc X0 ⟨[], [], [], [], [], [], [], [], [], [], 0⟩ Try.f83 = some f428 := by kernel_rfl
theorem tr429 : trFunc X0 ⟨[], [], [], [], [], [], [], [], [], [], 0⟩ Try.f84 = some f429 := by kernel_rfl
theorem tr430 : trFunc X0 ⟨[], [], [], [], [], [], [], [], [], [], 0⟩ Try.f85 = some f430 := by kernel_rfl
theorem tr431 : trFunc X0 ⟨[], [], [], [], [], [], [], [], [], [], 0⟩ Try.f86 = some f431 := by kernel_rfl
theorem tr432 : trFunc X0 ⟨[some 2], [], [], [], [], [], [], [], [], [], 0⟩ Try.f87 = some f432 := by kernel_rfl
theorem tr433 : trFunc X0 ⟨[some 2, none], [], [], [], [], [], [], [], [], [], 0⟩ Try.f88 = some f433 := by kernel_rfl
theorem tr434 : trFunc X0 ⟨[some 2], [], [], [(2, [0, 0, 0, 0, 0, 0, 7]), (15, [0, 0, 0, 0, 0, 0, 7]), (4, [0, 0, 0, 0, 0, 0, 7]), (33, [0, 0, 0, 0, 0, 0, 7]), (6, [0, 0, 0, 0, 0, 0, 7])], [], [], [], [], [], [], 0⟩ Try.f89 = some f434 := by kernel_rfl
theorem tr435 : trFunc X0 ⟨[], [], [], [], [], [], [], [], [], [], 0⟩ Try.f90 = some f435 := by kernel_rfl
theorem tr436 : trFunc X0 ⟨[], [], [], [(0, [1])], [], [], [], [], [], [], 0⟩ Try.f91 = some f436 := by kernel_rfl
theorem tr382 : trFunc X0 ⟨[], [], [], [], [], [], [], [], [], [], 0⟩ Try.f92 = some f382 := by kernel_rfl
theorem tr383 : trFunc X0 ⟨[], [], [], [], [], [], [], [], [], [], 0⟩ Try.f93 = some f383 := by kernel_rfl
theorem tr438 : trFunc X0 ⟨[], [], [], [], [], [], [], [], [], [], 0⟩ Try.f94 = some f438 := by kernel_rfl
theorem tr439 : trFunc X0 ⟨[], [], [], [], [], [], [], [], [], [], 0⟩ Try.f95 = some f439 := by kernel_rfl
theorem tr440 : trFunc X0 ⟨[], [], [], [(0, [1])], [], [], [], [], [], [], 0⟩ Try.f96 = some f440 := by kernel_rfl
theorem tr441 : trFunc X0 ⟨[], [], [], [(2, [0, 0, 0, 0, 0, 0, 7]), (7, [0, 0, 0, 0, 0, 0, 7]), (4, [0, 0, 0, 0, 0, 0, 7]), (8, [0, 0, 0, 0, 0, 0, 7])], [], [], [], [], [], [], 0⟩ Try.f97 = some f441 := by kernel_rfl
theorem tr415 : trFunc X0 ⟨[], [], [], [], [], [], [], [], [], [], 0⟩ Try.f98 = some f415 := by kernel_rfl
theorem tr389 : trFunc X0 ⟨[], [], [], [], [], [], [], [], [], [], 0⟩ Try.f99 = some f389 := by kernel_rfl
theorem cs373 : CloneShape X0 Try.f41 4 2872193639704 := ⟨⟨_, _, _, _, _, _, _, _, rfl, by kernel_rfl, by kernel_rfl, ⟨.agg [.int .i64 0, .int .i64 0, .int .i64 0, .nils], by kernel_rfl, by decide, by kernel_rfl⟩, ⟨_, _, _, 54, rfl, by kernel_rfl, rfl, rfl, rfl, by kernel_rfl⟩⟩, rfl, by decide⟩
theorem cs407 : CloneShape X0 Try.f69 1 8278675785407 := ⟨⟨_, _, _, _, _, _, _, _, rfl, by kernel_rfl, by kernel_rfl, ⟨.str [], by kernel_rfl, by decide, by kernel_rfl⟩, ⟨_, _, _, 9, rfl, by kernel_rfl, rfl, rfl, rfl, by kernel_rfl⟩⟩, rfl, by decide⟩
theorem hinjF : distinctB fnumL = true := by kernel_rfl
theorem hinjT : distinctB (tnumL.map (·.2)) = true := by kernel_rfl
theorem fnFacts : AllFacts X0 envTab := ⟨⟨3, Try.f3, _, _, rfl, Try.func3, by kernel_rfl, rfl, tr442, by decide +kernel⟩,
  ⟨4, Try.f4, _, _, rfl, Try.func4, by kernel_rfl, rfl, tr311, by decide +kernel⟩,
  ⟨5, Try.f5, _, _, rfl, Try.func5, by kernel_rfl, rfl, tr313, by decide +kernel⟩,
  ⟨6, Try.f6, _, _, rfl, Try.func6, by kernel_rfl, rfl, tr312, by decide +kernel⟩,
  ⟨7, Try.f7, _, _, rfl, Try.func7, by kernel_rfl, rfl, tr315, by decide +kernel⟩,
  ⟨8, Try.f8, _, _, rfl, Try.func8, by kernel_rfl, rfl, tr320, by decide +kernel⟩,
  ⟨9, Try.f9, _, _, rfl, Try.func9, by kernel_rfl, rfl, tr338, by decide +kernel⟩,
  ⟨10, Try.f10, _, _, rfl, Try.func10, by kernel_rfl, rfl, tr370, by decide +kernel⟩,
  ⟨11, Try.f11, _, _, rfl, Try.func11, by kernel_rfl, rfl, tr443, by decide +kernel⟩,
  ⟨12, Try.f12, _, _, rfl, Try.func12, by kernel_rfl, rfl, tr322, by decide +kernel⟩,
  ⟨13, Try.f13, _, _, rfl, Try.func13, by kernel_rfl, rfl, tr317, by decide +kernel⟩,
  ⟨14, Try.f14, _, _, rfl, Try.func14, by kernel_rfl, rfl, tr348, by decide +kernel⟩,
  ⟨15, Try.f15, _, _, rfl, Try.func15, by kernel_rfl, rfl, tr331, by decide +kernel⟩,
  ⟨16, Try.f16, _, _, rfl, Try.func16, by kernel_rfl, rfl, tr333, by decide +kernel⟩,
  ⟨17, Try.f17, _, _, rfl, Try.func17, by kernel_rfl, rfl, tr85, by decide +kernel⟩,
  ⟨18, Try.f18, _, _, rfl, Try.func18, by kernel_rfl, rfl, tr332, by decide +kernel⟩,
  ⟨19, Try.f19, _, _, rfl, Try.func19, by kernel_rfl, rfl, tr337, by decide +kernel⟩,
  ⟨20, Try.f20, _, _, rfl, Try.func20, by kernel_rfl, rfl, tr343, by decide +kernel⟩,
  ⟨21, Try.f21, _, _, rfl, Try.func21, by kernel_rfl, rfl, tr339, by decide +kernel⟩,
  ⟨22, Try.f22, _, _, rfl, Try.func22, by kernel_rfl, rfl, tr344, by decide +kernel⟩,
  ⟨23, Try.f23, _, _, rfl, Try.func23, by kernel_rfl, rfl, tr371, by decide +kernel⟩,
  ⟨24, Try.f24, _, _, rfl, Try.func24, by kernel_rfl, rfl, tr444, by decide +kernel⟩,
  ⟨25, Try.f25, _, _, rfl, Try.func25, by kernel_rfl, rfl, tr346, by decide +kernel⟩,
  ⟨26, Try.f26, _, _, rfl, Try.func26, by kernel_rfl, rfl, tr347, by decide +kernel⟩,
  ⟨27, Try.f27, _, _, rfl, Try.func27, by kernel_rfl, rfl, tr349, by decide +kernel⟩,
  ⟨28, Try.f28, _, _, rfl, Try.func28, by kernel_rfl, rfl, tr350, by decide +kernel⟩,
  ⟨29, Try.f29, _, _, rfl, Try.func29, by kernel_rfl, rfl, tr340, by decide +kernel⟩,
  ⟨30, Try.f30, _, _, rfl, Try.func30, by kernel_rfl, rfl, tr391, by decide +kernel⟩,
  ⟨31, Try.f31, _, _, rfl, Try.func31, by kernel_rfl, rfl, tr392, by decide +kernel⟩,
  ⟨32, Try.f32, _, _, rfl, Try.func32, by kernel_rfl, rfl, tr366, by decide +kernel⟩,
  ⟨33, Try.f33, _, _, rfl, Try.func33, by kernel_rfl, rfl, tr319, by decide +kernel⟩,
  ⟨34, Try.f34, _, _, rfl, Try.func34, by kernel_rfl, rfl, tr367, by decide +kernel⟩,
  ⟨35, Try.f35, _, _, rfl, Try.func35, by kernel_rfl, rfl, tr93, by decide +kernel⟩,
  ⟨36, Try.f36, _, _, rfl, Try.func36, by kernel_rfl, rfl, tr335, by decide +kernel⟩,
  ⟨37, Try.f37, _, _, rfl, Try.func37, by kernel_rfl, rfl, tr368, by decide +kernel⟩,
  ⟨38, Try.f38, _, _, rfl, Try.func38, by kernel_rfl, rfl, tr336, by decide +kernel⟩,
  ⟨39, Try.f39, _, _, rfl, Try.func39, by kernel_rfl, rfl, tr369, by decide +kernel⟩,
  ⟨40, Try.f40, _, _, rfl, Try.func40, by kernel_rfl, rfl, tr372, by decide +kernel⟩,
  ⟨42, Try.f42, _, _, rfl, Try.func42, by kernel_rfl, rfl, tr374, by decide +kernel⟩,
  ⟨43, Try.f43, _, _, rfl, Try.func43, by kernel_rfl, rfl, tr375, by decide +kernel⟩,
  ⟨44, Try.f44, _, _, rfl, Try.func44, by kernel_rfl, rfl, tr376, by decide +kernel⟩,
  ⟨45, Try.f45, _, _, rfl, Try.func45, by kernel_rfl, rfl, tr377, by decide +kernel⟩,
  ⟨46, Try.f46, _, _, rfl, Try.func46, by kernel_rfl, rfl, tr387, by decide +kernel⟩,
  ⟨47, Try.f47, _, _, rfl, Try.func47, by kernel_rfl, rfl, tr401, by decide +kernel⟩,
  ⟨48, Try.f48, _, _, rfl, Try.func48, by kernel_rfl, rfl, tr402, by decide +kernel⟩,
  ⟨49, Try.f49, _, _, rfl, Try.func49, by kernel_rfl, rfl, tr259, by decide +kernel⟩,
  ⟨50, Try.f50, _, _, rfl, Try.func50, by kernel_rfl, rfl, tr403, by decide +kernel⟩,
  ⟨51, Try.f51, _, _, rfl, Try.func51, by kernel_rfl, rfl, tr404, by decide +kernel⟩,
  ⟨52, Try.f52, _, _, rfl, Try.func52, by kernel_rfl, rfl, tr405, by decide +kernel⟩,
  ⟨53, Try.f53, _, _, rfl, Try.func53, by kernel_rfl, rfl, tr390, by decide +kernel⟩,
  ⟨54, Try.f54, _, _, rfl, Try.func54, by kernel_rfl, rfl, tr393, by decide +kernel⟩,
  ⟨55, Try.f55, _, _, rfl, Try.func55, by kernel_rfl, rfl, tr394, by decide +kernel⟩,
  ⟨56, Try.f56, _, _, rfl, Try.func56, by kernel_rfl, rfl, tr395, by decide +kernel⟩,
  ⟨57, Try.f57, _, _, rfl, Try.func57, by kernel_rfl, rfl, tr378, by decide +kernel⟩,
  ⟨58, Try.f58, _, _, rfl, Try.func58, by kernel_rfl, rfl, tr379, by decide +kernel⟩,
  ⟨59, Try.f59, _, _, rfl, Try.func59, by kernel_rfl, rfl, tr380, by decide +kernel⟩,
  ⟨60, Try.f60, _, _, rfl, Try.func60, by kernel_rfl, rfl, tr381, by decide +kernel⟩,
  ⟨61, Try.f61, _, _, rfl, Try.func61, by kernel_rfl, rfl, tr418, by decide +kernel⟩,
  ⟨62, Try.f62, _, _, rfl, Try.func62, by kernel_rfl, rfl, tr400, by decide +kernel⟩,
  ⟨63, Try.f63, _, _, rfl, Try.func63, by kernel_rfl, rfl, tr351, by decide +kernel⟩,
  ⟨64, Try.f64, _, _, rfl, Try.func64, by kernel_rfl, rfl, tr406, by decide +kernel⟩,
  ⟨65, Try.f65, _, _, rfl, Try.func65, by kernel_rfl, rfl, tr416, by decide +kernel⟩,
  ⟨66, Try.f66, _, _, rfl, Try.func66, by kernel_rfl, rfl, tr280, by decide +kernel⟩,
  ⟨67, Try.f67, _, _, rfl, Try.func67, by kernel_rfl, rfl, tr424, by decide +kernel⟩,
  ⟨68, Try.f68, _, _, rfl, Try.func68, by kernel_rfl, rfl, tr425, by decide +kernel⟩,
  ⟨70, Try.f70, _, _, rfl, Try.func70, by kernel_rfl, rfl, tr408, by decide +kernel⟩,
  ⟨71, Try.f71, _, _, rfl, Try.func71, by kernel_rfl, rfl, tr409, by decide +kernel⟩,
  ⟨72, Try.f72, _, _, rfl, Try.func72, by kernel_rfl, rfl, tr410, by decide +kernel⟩,
  ⟨73, Try.f73, _, _, rfl, Try.func73, by kernel_rfl, rfl, tr411, by decide +kernel⟩,
  ⟨74, Try.f74, _, _, rfl, Try.func74, by kernel_rfl, rfl, tr412, by decide +kernel⟩,
  ⟨75, Try.f75, _, _, rfl, Try.func75, by kernel_rfl, rfl, tr413, by decide +kernel⟩,
  ⟨76, Try.f76, _, _, rfl, Try.func76, by kernel_rfl, rfl, tr414, by decide +kernel⟩,
  ⟨77, Try.f77, _, _, rfl, Try.func77, by kernel_rfl, rfl, tr422, by decide +kernel⟩,
  ⟨78, Try.f78, _, _, rfl, Try.func78, by kernel_rfl, rfl, tr423, by decide +kernel⟩,
  ⟨79, Try.f79, _, _, rfl, Try.func79, by kernel_rfl, rfl, tr341, by decide +kernel⟩,
  ⟨80, Try.f80, _, _, rfl, Try.func80, by kernel_rfl, rfl, tr437, by decide +kernel⟩,
  ⟨81, Try.f81, _, _, rfl, Try.func81, by kernel_rfl, rfl, tr426, by decide +kernel⟩,
  ⟨82, Try.f82, _, _, rfl, Try.func82, by kernel_rfl, rfl, tr427, by decide +kernel⟩,
  ⟨83, Try.f83, _, _, rfl, Try.func83, by kernel_rfl, rfl, tr428, by decide +kernel⟩,
  ⟨84, Try.f84, _, _, rfl, Try.func84, by kernel_rfl, rfl, tr429, by decide +kernel⟩,
  ⟨85, Try.f85, _, _, rfl, Try.func85, by kernel_rfl, rfl, tr430, by decide +kernel⟩,
  ⟨86, Try.f86, _, _, rfl, Try.func86, by kernel_rfl, rfl, tr431, by decide +kernel⟩,
  ⟨87, Try.f87, _, _, rfl, Try.func87, by kernel_rfl, rfl, tr432, by decide +kernel⟩,
  ⟨88, Try.f88, _, _, rfl, Try.func88, by kernel_rfl, rfl, tr433, by decide +kernel⟩,
  ⟨89, Try.f89, _, _, rfl, Try.func89, by kernel_rfl, rfl, tr434, by decide +kernel⟩,
  ⟨90, Try.f90, _, _, rfl, Try.func90, by kernel_rfl, rfl, tr435, by decide +kernel⟩,
  ⟨91, Try.f91, _, _, rfl, Try.func91, by kernel_rfl, rfl, tr436, by decide +kernel⟩,
  ⟨92, Try.f92, _, _, rfl, Try.func92, by kernel_rfl, rfl, tr382, by decide +kernel⟩,
  ⟨93, Try.f93, _, _, rfl, Try.func93, by kernel_rfl, rfl, tr383, by decide +kernel⟩,
  ⟨94, Try.f94, _, _, rfl, Try.func94, by kernel_rfl, rfl, tr438, by decide +kernel⟩,
  ⟨95, Try.f95, _, _, rfl, Try.func95, by kernel_rfl, rfl, tr439, by decide +kernel⟩,
  ⟨96, Try.f96, _, _, rfl, Try.func96, by kernel_rfl, rfl, tr440, by decide +kernel⟩,
  ⟨97, Try.f97, _, _, rfl, Try.func97, by kernel_rfl, rfl, tr441, by decide +kernel⟩,
  ⟨98, Try.f98, _, _, rfl, Try.func98, by kernel_rfl, rfl, tr415, by decide +kernel⟩,
  ⟨99, Try.f99, _, _, rfl, Try.func99, by kernel_rfl, rfl, tr389, by decide +kernel⟩, trivial⟩
theorem hinjX : ∀ t1 t2 k, X0.tnum t1 = some k → X0.tnum t2 = some k → t1 = t2 := (envOk_of (P := Try.prog) (fl := fnumL) (tl := tnumL) (tab := []) (ext := []) hinjF hinjT (by kernel_rfl) trivial trivial).inj
theorem extFacts : AllExt X0 envExt := ⟨⟨41, rfl, fun _ _ h => clone_sound hinjX Try.func41 (by kernel_rfl) cs373 h⟩,
  ⟨69, rfl, fun _ _ h => clone_sound hinjX Try.func69 (by kernel_rfl) cs407 h⟩, trivial⟩
theorem envOk : EnvSnd X0 E := envOk_of (P := Try.prog) (fl := fnumL) (tl := tnumL) hinjF hinjT (by kernel_rfl) fnFacts extFacts
end Go.AM
