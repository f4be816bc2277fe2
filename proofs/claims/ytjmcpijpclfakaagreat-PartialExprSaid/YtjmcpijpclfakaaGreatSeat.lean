/-
  Texts of the proof, joined by program: AmTrPe. Own work.
-/
import Derived.Test.YtjmcpijpclfakaaGreatFns
import Derived.Test.YtjmcpijpclfakaaGreatOpsC
import Derived.Test.YtjmcpijpclfakaaGreatRows
set_option linter.unusedSimpArgs false
set_option linter.unusedVariables false
set_option maxRecDepth 100000
namespace Go.AM
open Go.Proofs
def fnumL : List Nat := [0, 1, 2, 309, 310, 311, 312, 313, 314, 315, 316, 317, 318, 319, 320, 321, 322, 323, 324, 325, 326, 327, 328, 329, 330, 331, 85, 332, 333, 334, 93, 335, 336, 337, 338, 339, 340, 341, 342, 343, 344, 345, 346, 347, 348, 349, 350, 351, 352, 353, 354, 355, 356, 357, 358, 359, 360, 361, 362, 363, 364, 365, 366, 367, 368, 369, 370, 371, 372, 373, 374, 375, 376, 377, 378, 379, 380, 381, 382, 383, 384, 385, 386, 387, 388, 389, 390, 391, 392, 393, 394, 395, 396, 226, 397, 398, 399, 400, 401, 402, 259, 403, 404, 405, 406, 407, 408, 409, 410, 411, 412, 413, 414, 415, 416, 417, 418, 419, 420, 257, 258, 421, 422, 423, 280, 424, 425, 426, 427, 428, 429, 430, 279, 431, 432, 433, 434, 435, 436, 437, 438, 439, 440, 441, 59, 60, 61, 62, 63, 64, 65, 66, 67, 68, 69, 70, 71, 72, 73, 74]
def tnumL : List (Nat × Nat) := [(2, 2), (3, 3), (4, 4), (5, 5), (6, 6), (9, 9), (10, 10), (11, 11), (12, 12), (21, 21)]
noncomputable def X0 : TrEnv := ⟨Tryz.prog, fun F => fnumL[F]?, fun t => (tnumL.find? (·.1 == t)).map (·.2)⟩
theorem tr309 : trFunc X0 ⟨[], [], [], [(10, [0, 0, 0, 0, 0, 0, 7])], [], [], [], [], [], [], 0⟩ Tryz.f3 = some f309 := by kernel_rfl
theorem tr311 : trFunc X0 ⟨[], [], [], [(18, [0, 0, 0, 1])], [], [(3, 19, 65)], [], [], [], [], 0⟩ Tryz.f5 = some f311 := by kernel_rfl
theorem tr312 : trFunc X0 ⟨[], [], [], [(6, [1, 0])], [], [], [], [], [], [], 0⟩ Tryz.f6 = some f312 := by kernel_rfl
theorem tr313 : trFunc X0 ⟨[], [], [], [(2, [0, 0, 0, 0, 0, 0, 7]), (5, [1, 0])], [], [], [], [], [], [], 0⟩ Tryz.f7 = some f313 := by kernel_rfl
theorem tr314 : trFunc X0 ⟨[], [10, 77, 86], [(96, 101)], [(4, [0, 0, 0, 0, 0, 0, 7]), (94, [0, 0, 0, 0, 0, 0, 7])], [], [], [], [], [], [], 0⟩ Tryz.f8 = some f314 := by kernel_rfl
theorem tr315 : trFunc X0 ⟨[], [], [(89, 97)], [(36, [0, 0, 0, 1]), (9, [0, 0, 0, 1])], [(4, 81, 4), (5, 97, 4)], [(5, 89, 97)], [], [], [], [], 0⟩ Tryz.f9 = some f315 := by kernel_rfl
theorem tr316 : trFunc X0 ⟨[], [], [(58, 101), (63, 65)], [], [(2, 49, 4), (3, 65, 4)], [(3, 63, 65)], [], [], [], [], 0⟩ Tryz.f10 = some f316 := by kernel_rfl
theorem tr317 : trFunc X0 ⟨[], [], [], [(9, [0, 0, 1, 0, 0])], [], [], [], [], [], [], 0⟩ Tryz.f11 = some f317 := by kernel_rfl
theorem tr318 : trFunc X0 ⟨[], [], [], [], [], [], [], [], [], [], 0⟩ Tryz.f12 = some f318 := by kernel_rfl
theorem tr319 : trFunc X0 ⟨[], [], [], [], [], [], [], [], [], [], 0⟩ Tryz.f13 = some f319 := by kernel_rfl
theorem tr320 : trFunc X0 ⟨[], [], [], [(4, [0, 0, 0, 0, 0, 0, 7])], [], [], [], [], [], [], 0⟩ Tryz.f14 = some f320 := by kernel_rfl
theorem tr321 : trFunc X0 ⟨[], [32], [], [(4, [0, 0, 0, 0, 0, 0, 7]), (7, [0, 0, 0, 0, 0, 0, 7]), (9, [0, 0, 0, 0, 0, 0, 7])], [], [], [], [], [], [], 0⟩ Tryz.f15 = some f321 := by kernel_rfl
theorem tr322 : trFunc X0 ⟨[], [], [], [], [], [], [], [], [], [], 0⟩ Tryz.f16 = some f322 := by kernel_rfl
theorem tr323 : trFunc X0 ⟨[], [], [], [], [], [], [], [], [], [], 0⟩ Tryz.f17 = some f323 := by kernel_rfl
theorem tr331 : trFunc X0 ⟨[], [], [], [(13, [0, 0, 0, 1]), (15, [0, 0, 0, 1]), (16, [0, 0, 0, 1])], [], [(9, 17, 161)], [], [], [], [], 0⟩ Tryz.f25 = some f331 := by kernel_rfl
theorem tr85 : trFunc X0 ⟨[some 2, none], [], [], [], [], [], [], [], [], [], 0⟩ Tryz.f26 = some f85 := by kernel_rfl
theorem tr332 : trFunc X0 ⟨[], [], [], [(0, [1])], [], [], [], [], [], [], 0⟩ Tryz.f27 = some f332 := by kernel_rfl
theorem tr333 : trFunc X0 ⟨[some 2, none, none], [], [], [(6, [0, 0, 0, 0, 0, 0, 7]), (43, [0, 0, 0, 0, 0, 0, 7]), (65, [0, 0, 0, 0, 0, 0, 7]), (76, [0, 0, 0, 0, 0, 0, 7]), (93, [0, 0, 0, 0, 0, 0, 7]), (105, [0, 0, 0, 0, 0, 0, 7]), (119, [0, 0, 0, 0, 0, 0, 7]), (131, [0, 0, 0, 0, 0, 0, 7])], [], [], [], [], [], [], 0⟩ Tryz.f28 = some f333 := by kernel_rfl
theorem tr334 : trFunc X0 ⟨[], [], [(23, 69)], [(2, [0, 0, 0, 0, 0, 0, 7])], [], [], [], [], [], [], 0⟩ Tryz.f29 = some f334 := by kernel_rfl
theorem tr93 : trFunc X0 ⟨[], [], [], [], [], [], [], [], [], [], 0⟩ Tryz.f30 = some f93 := by kernel_rfl
theorem tr335 : trFunc X0 ⟨[], [], [], [], [], [], [], [], [], [], 0⟩ Tryz.f31 = some f335 := by kernel_rfl
theorem tr336 : trFunc X0 ⟨[], [], [], [], [], [], [], [], [], [], 0⟩ Tryz.f32 = some f336 := by kernel_rfl
theorem tr337 : trFunc X0 ⟨[], [], [], [], [], [], [], [], [], [], 0⟩ Tryz.f33 = some f337 := by kernel_rfl
theorem tr338 : trFunc X0 ⟨[], [], [], [], [], [], [], [], [], [], 0⟩ Tryz.f34 = some f338 := by kernel_rfl
theorem tr339 : trFunc X0 ⟨[], [16], [], [(26, [0, 0, 1, 0, 0]), (6, [0, 0, 1, 0, 0]), (7, [0, 0, 1, 0, 0]), (9, [0, 0, 0, 1]), (48, [0, 0, 1, 0, 0])], [], [(5, 18, 97)], [], [], [], [2], 0⟩ Tryz.f35 = some f339 := by kernel_rfl
theorem tr340 : trFunc X0 ⟨[], [], [], [(4, [0, 0, 1, 0, 0]), (5, [0, 0, 1, 0, 0]), (36, [0, 0, 1, 0, 0]), (6, [0, 0, 1, 0, 0])], [], [(7, 78, 129)], [], [], [], [], 0⟩ Tryz.f36 = some f340 := by kernel_rfl
theorem tr341 : trFunc X0 ⟨[], [], [], [], [], [], [], [], [], [], 0⟩ Tryz.f37 = some f341 := by kernel_rfl
theorem tr342 : trFunc X0 ⟨[], [], [], [], [], [], [], [], [], [], 0⟩ Tryz.f38 = some f342 := by kernel_rfl
theorem tr343 : trFunc X0 ⟨[], [], [(20, 37)], [(2, [0, 0, 0, 0, 0, 0, 7]), (5, [0, 0, 0, 0, 0, 0, 7])], [], [], [], [], [], [], 0⟩ Tryz.f39 = some f343 := by kernel_rfl
theorem tr344 : trFunc X0 ⟨[], [], [(120, 69)], [(4, [0, 0, 0, 0, 0, 0, 7]), (7, [0, 0, 0, 0, 0, 0, 7]), (9, [0, 0, 1, 0, 0]), (14, [0, 0, 0, 0, 0, 0, 7])], [], [], [], [], [], [], 0⟩ Tryz.f40 = some f344 := by kernel_rfl
theorem tr345 : trFunc X0 ⟨[], [], [], [(6, [0, 0, 0, 0, 0, 0, 7]), (13, [0, 0, 0, 0, 0, 0, 7]), (8, [0, 0, 0, 0, 0, 0, 7])], [], [], [], [], [], [], 0⟩ Tryz.f41 = some f345 := by kernel_rfl
theorem tr346 : trFunc X0 ⟨[], [], [], [], [], [], [], [], [], [], 0⟩ Tryz.f42 = some f346 := by kernel_rfl
theorem tr347 : trFunc X0 ⟨[], [], [], [(10, [0, 0, 0, 0, 0, 0, 7])], [], [], [], [], [], [], 0⟩ Tryz.f43 = some f347 := by kernel_rfl
theorem tr348 : trFunc X0 ⟨[], [], [], [], [], [], [], [], [], [], 0⟩ Tryz.f44 = some f348 := by kernel_rfl
theorem tr349 : trFunc X0 ⟨[], [], [], [], [], [], [], [], [], [], 0⟩ Tryz.f45 = some f349 := by kernel_rfl
theorem tr350 : trFunc X0 ⟨[], [], [], [(2, [0, 0, 1, 0, 0]), (10, [0, 0, 1, 0, 0]), (21, [0, 0, 1, 0, 0])], [], [], [], [], [], [], 0⟩ Tryz.f46 = some f350 := by kernel_rfl
theorem tr351 : trFunc X0 ⟨[], [], [], [], [], [], [], [], [], [], 0⟩ Tryz.f47 = some f351 := by kernel_rfl
theorem tr352 : trFunc X0 ⟨[], [], [], [], [], [], [], [], [], [], 0⟩ Tryz.f48 = some f352 := by kernel_rfl
theorem tr353 : trFunc X0 ⟨[], [], [], [], [], [], [], [], [], [], 0⟩ Tryz.f49 = some f353 := by kernel_rfl
theorem tr366 : trFunc X0 ⟨[], [], [], [(2, [0, 0, 0, 0, 0, 0, 7]), (3, [0, 0, 0, 0, 0, 0, 7])], [], [], [], [], [], [], 0⟩ Tryz.f62 = some f366 := by kernel_rfl
theorem tr367 : trFunc X0 ⟨[some 2, none], [], [(22, 97)], [(4, [0, 0, 0, 0, 0, 0, 7]), (30, [0, 0, 0, 0, 0, 0, 7]), (31, [0, 0, 0, 0, 0, 0, 7]), (7, [0, 0, 0, 0, 0, 0, 7])], [(5, 97, 1)], [(5, 22, 97)], [], [], [], [], 0⟩ Tryz.f63 = some f367 := by kernel_rfl
theorem tr368 : trFunc X0 ⟨[], [], [], [], [], [], [], [], [], [], 0⟩ Tryz.f64 = some f368 := by kernel_rfl
theorem tr369 : trFunc X0 ⟨[], [], [], [], [], [], [], [], [], [], 0⟩ Tryz.f65 = some f369 := by kernel_rfl
theorem tr370 : trFunc X0 ⟨[], [], [], [(5, [0, 0, 0, 0, 0, 0, 7])], [], [], [], [], [], [], 0⟩ Tryz.f66 = some f370 := by kernel_rfl
theorem tr371 : trFunc X0 ⟨[], [], [], [(7, [0, 0, 0, 0, 0, 0, 7])], [], [], [], [], [], [], 0⟩ Tryz.f67 = some f371 := by kernel_rfl
theorem tr372 : trFunc X0 ⟨[some 4, none], [], [], [(4, [4]), (7, [0, 0, 0, 1])], [], [], [], [], [], [], 0⟩ Tryz.f68 = some f372 := by kernel_rfl
theorem tr374 : trFunc X0 ⟨[], [], [], [], [], [], [], [], [], [], 0⟩ Tryz.f70 = some f374 := by kernel_rfl
theorem tr375 : trFunc X0 ⟨[], [], [], [(7, [0, 0, 0, 0, 0, 0, 7])], [], [], [], [], [], [], 0⟩ Tryz.f71 = some f375 := by kernel_rfl
theorem tr376 : trFunc X0 ⟨[], [], [(37, 68)], [(2, [0, 0, 1, 0, 0])], [], [], [], [], [], [], 0⟩ Tryz.f72 = some f376 := by kernel_rfl
theorem tr377 : trFunc X0 ⟨[], [], [], [(0, [0, 0, 1, 0, 0]), (1, [0, 0, 1, 0, 0])], [], [], [], [], [], [], 0⟩ Tryz.f73 = some f377 := by kernel_rfl
theorem tr378 : trFunc X0 ⟨[], [33], [(48, 97)], [(4, [0, 0, 1, 0, 0]), (21, [0, 0, 1, 0, 0]), (30, [0, 0, 1, 0, 0]), (51, [0, 0, 1, 0, 0])], [], [(5, 33, 97), (5, 48, 97)], [], [], [], [], 0⟩ Tryz.f74 = some f378 := by kernel_rfl
theorem tr379 : trFunc X0 ⟨[], [], [], [(0, [2])], [], [], [], [], [], [], 0⟩ Tryz.f75 = some f379 := by kernel_rfl
theorem tr380 : trFunc X0 ⟨[], [], [], [], [], [], [], [], [], [], 0⟩ Tryz.f76 = some f380 := by kernel_rfl
theorem tr381 : trFunc X0 ⟨[], [], [], [], [], [], [], [], [], [], 0⟩ Tryz.f77 = some f381 := by kernel_rfl
theorem tr382 : trFunc X0 ⟨[], [], [], [], [], [], [], [], [], [], 0⟩ Tryz.f78 = some f382 := by kernel_rfl
theorem tr383 : trFunc X0 ⟨[], [], [], [], [], [], [], [], [], [], 0⟩ Tryz.f79 = some f383 := by kernel_rfl
theorem tr384 : trFunc X0 ⟨[], [], [], [], [], [], [], [], [], [], 0⟩ Tryz.f80 = some f384 := by kernel_rfl
theorem tr385 : trFunc X0 ⟨[], [], [], [], [], [], [], [], [], [], 0⟩ Tryz.f81 = some f385 := by kernel_rfl
theorem tr386 : trFunc X0 ⟨[], [], [], [], [], [], [], [], [], [], 0⟩ Tryz.f82 = some f386 := by kernel_rfl
theorem tr387 : trFunc X0 ⟨[], [], [], [(6, [0, 0, 0, 0, 0, 0, 7]), (8, [0, 0, 1, 0, 0]), (17, [0, 0, 0, 0, 0, 0, 7]), (9, [0, 0, 0, 0, 0, 0, 7]), (29, [0, 0, 0, 0, 0, 0, 7])], [], [], [], [], [], [], 0⟩ Tryz.f83 = some f387 := by kernel_rfl
theorem tr388 : trFunc X0 ⟨[], [], [(105, 209)], [], [(4, 81, 1)], [(12, 85, 209), (12, 105, 209)], [], [], [], [], 0⟩ Tryz.f84 = some f388 := by kernel_rfl
theorem tr389 : trFunc X0 ⟨[], [], [], [], [], [], [], [], [], [], 0⟩ Tryz.f85 = some f389 := by kernel_rfl
theorem tr390 : trFunc X0 ⟨[], [], [], [], [], [], [], [], [], [], 0⟩ Tryz.f86 = some f390 := by kernel_rfl
theorem tr391 : trFunc X0 ⟨[], [], [], [], [], [], [], [], [], [], 0⟩ Tryz.f87 = some f391 := by kernel_rfl
theorem tr392 : trFunc X0 ⟨[], [], [(23, 97)], [(7, [0, 0, 0, 0, 0, 0, 7])], [(5, 97, 1)], [(5, 23, 97)], [], [], [], [], 0⟩ Tryz.f88 = some f392 := by kernel_rfl
theorem tr393 : trFunc X0 ⟨[], [], [], [], [], [], [], [], [], [], 0⟩ Tryz.f89 = some f393 := by kernel_rfl
theorem tr394 : trFunc X0 ⟨[], [], [], [(0, [0, 0, 1, 0, 0]), (1, [0, 0, 1, 0, 0])], [], [], [], [], [], [], 0⟩ Tryz.f90 = some f394 := by kernel_rfl
theorem tr395 : trFunc X0 ⟨[], [], [], [(0, [0, 0, 1, 0, 0]), (1, [0, 0, 1, 0, 0])], [], [], [], [], [], [], 0⟩ Tryz.f91 = some f395 := by kernel_rfl
theorem tr400 : trFunc X0 ⟨[], [], [], [(2, [0, 0, 0, 0, 0, 0, 7]), (13, [0, 0, 0, 0, 0, 0, 7]), (21, [0, 0, 0, 0, 0, 0, 7]), (23, [1, 0]), (7, [0, 0, 0, 0, 0, 0, 7]), (39, [0, 0, 0, 0, 0, 0, 7]), (47, [0, 0, 0, 0, 0, 0, 7])], [], [], [], [], [], [], 0⟩ Tryz.f97 = some f400 := by kernel_rfl
theorem tr401 : trFunc X0 ⟨[], [], [], [], [], [], [], [], [], [], 0⟩ Tryz.f98 = some f401 := by kernel_rfl
theorem tr402 : trFunc X0 ⟨[], [], [], [], [], [], [], [], [], [], 0⟩ Tryz.f99 = some f402 := by kernel_rfl
theorem tr259 : trFunc X0 ⟨[], [], [], [], [], [], [], [], [], [], 0⟩ Tryz.f100 = some f259 := by kernel_rfl
theorem tr403 : trFunc X0 ⟨[], [], [], [], [], [], [], [], [], [], 0⟩ Tryz.f101 = some f403 := by kernel_rfl
theorem tr404 : trFunc X0 ⟨[], [], [], [], [], [], [], [], [], [], 0⟩ Tryz.f102 = some f404 := by kernel_rfl
theorem tr405 : trFunc X0 ⟨[], [], [], [], [], [], [], [], [], [], 0⟩ Tryz.f103 = some f405 := by kernel_rfl
theorem tr406 : trFunc X0 ⟨[], [], [], [], [], [], [], [], [], [], 0⟩ Tryz.f104 = some f406 := by kernel_rfl
theorem tr408 : trFunc X0 ⟨[], [], [], [(4, [0, 0, 1, 0, 0]), (15, [0, 0, 1, 0, 0])], [], [], [], [], [], [], 0⟩ Tryz.f106 = some f408 := by kernel_rfl
theorem tr409 : trFunc X0 ⟨[], [], [], [(4, [0, 0, 1, 0, 0]), (15, [0, 0, 1, 0, 0])], [], [], [], [], [], [], 0⟩ Tryz.f107 = some f409 := by kernel_rfl
theorem tr410 : trFunc X0 ⟨[], [], [], [(4, [0, 0, 1, 0, 0])], [], [], [], [], [], [], 0⟩ Tryz.f108 = some f410 := by kernel_rfl
theorem tr411 : trFunc X0 ⟨[], [], [], [(4, [0, 0, 1, 0, 0])], [], [], [], [], [], [], 0⟩ Tryz.f109 = some f411 := by kernel_rfl
theorem tr412 : trFunc X0 ⟨[], [], [], [(4, [0, 0, 1, 0, 0]), (17, [0, 0, 1, 0, 0])], [], [], [], [], [], [], 0⟩ Tryz.f110 = some f412 := by kernel_rfl
theorem tr413 : trFunc X0 ⟨[], [], [], [(4, [0, 0, 1, 0, 0]), (17, [0, 0, 1, 0, 0])], [], [], [], [], [], [], 0⟩ Tryz.f111 = some f413 := by kernel_rfl
theorem tr414 : trFunc X0 ⟨[], [], [], [(4, [0, 0, 1, 0, 0]), (35, [0, 0, 1, 0, 0])], [], [(5, 30, 97)], [], [], [], [], 0⟩ Tryz.f112 = some f414 := by kernel_rfl
theorem tr415 : trFunc X0 ⟨[], [], [], [], [], [], [], [], [], [], 0⟩ Tryz.f113 = some f415 := by kernel_rfl
theorem tr416 : trFunc X0 ⟨[], [], [], [], [], [], [], [], [], [], 0⟩ Tryz.f114 = some f416 := by kernel_rfl
theorem tr417 : trFunc X0 ⟨[], [], [(83, 145)], [], [(4, 81, 1), (8, 145, 1)], [(8, 83, 145)], [], [], [], [], 0⟩ Tryz.f115 = some f417 := by kernel_rfl
theorem tr418 : trFunc X0 ⟨[], [], [], [], [], [], [], [], [], [], 0⟩ Tryz.f116 = some f418 := by kernel_rfl
theorem tr422 : trFunc X0 ⟨[], [], [(23, 81)], [], [(2, 49, 1), (4, 81, 1)], [(4, 23, 81)], [], [], [], [], 0⟩ Tryz.f122 = some f422 := by kernel_rfl
theorem tr423 : trFunc X0 ⟨[some 2], [], [], [(2, [0, 0, 0, 0, 0, 0, 7]), (11, [0, 0, 0, 0, 0, 0, 7]), (20, [0, 0, 0, 0, 0, 0, 7]), (3, [0, 0, 0, 0, 0, 0, 7]), (4, [0, 0, 0, 0, 0, 0, 7]), (39, [0, 0, 0, 0, 0, 0, 7]), (5, [0, 0, 0, 0, 0, 0, 7]), (59, [0, 0, 0, 0, 0, 0, 7])], [], [], [], [], [], [], 0⟩ Tryz.f123 = some f423 := by kernel_rfl
theorem tr280 : trFunc X0 ⟨[], [], [], [], [], [], [], [], [], [], 0⟩ Tryz.f124 = some f280 := by kernel_rfl
theorem tr424 : trFunc X0 ⟨[], [], [], [], [], [], [], [], [], [], 0⟩ Tryz.f125 = some f424 := by kernel_rfl
theorem tr425 : trFunc X0 ⟨[], [], [], [], [], [], [], [], [], [], 0⟩ Tryz.f126 = some f425 := by kernel_rfl
theorem tr426 : trFunc X0 ⟨[], [], [], [], [], [], [], [], [], [], 0⟩ Tryz.f127 = some f426 := by kernel_rfl
theorem tr427 : trFunc X0 ⟨[], [], [], [], [], [], [], [], [], [], 0⟩ Tryz.f128 = some f427 := by kernel_rfl
theorem tr428 : trFunc X0 ⟨[], [], [], [], [], [], [], [], [], [], 0⟩ Tryz.f129 = some f428 := by kernel_rfl
theorem tr429 : trFunc X0 ⟨[], [], [], [], [], [], [], [], [], [], 0⟩ Tryz.f130 = some f429 := by kernel_rfl
theorem tr430 : trFunc X0 ⟨[], [], [], [], [], [], [], [], [], [], 0⟩ Tryz.f131 = some f430 := by kernel_rfl
theorem tr431 : trFunc X0 ⟨[], [], [], [], [], [], [], [], [], [], 0⟩ Tryz.f133 = some f431 := by kernel_rfl
theorem tr432 : trFunc X0 ⟨[some 2], [], [], [], [], [], [], [], [], [], 0⟩ Tryz.f134 = some f432 := by kernel_rfl
theorem tr433 : trFunc X0 ⟨[some 2, none], [], [], [], [], [], [], [], [], [], 0⟩ Tryz.f135 = some f433 := by kernel_rfl
theorem tr434 : trFunc X0 ⟨[some 2], [], [], [(2, [0, 0, 0, 0, 0, 0, 7]), (15, [0, 0, 0, 0, 0, 0, 7]), (4, [0, 0, 0, 0, 0, 0, 7]), (33, [0, 0, 0, 0, 0, 0, 7]), (6, [0, 0, 0, 0, 0, 0, 7])], [], [], [], [], [], [], 0⟩ Tryz.f136 = some f434 := by kernel_rfl
theorem tr435 : trFunc X0 ⟨[], [], [], [], [], [], [], [], [], [], 0⟩ Tryz.f137 = some f435 := by kernel_rfl
theorem tr436 : trFunc X0 ⟨[], [], [], [(0, [1])], [], [], [], [], [], [], 0⟩ Tryz.f138 = some f436 := by kernel_rfl
theorem tr437 : trFunc X0 ⟨[], [], [], [], [], [], [], [], [], [], 0⟩ Tryz.f139 = some f437 := by kernel_rfl
theorem tr438 : trFunc X0 ⟨[], [], [], [], [], [], [], [], [], [], 0⟩ Tryz.f140 = some f438 := by kernel_rfl
theorem tr439 : trFunc X0 ⟨[], [], [], [], [], [], [], [], [], [], 0⟩ Tryz.f141 = some f439 := by kernel_rfl
theorem tr440 : trFunc X0 ⟨[], [], [], [(0, [1])], [], [], [], [], [], [], 0⟩ Tryz.f142 = some f440 := by kernel_rfl
theorem tr441 : trFunc X0 ⟨[], [], [], [(2, [0, 0, 0, 0, 0, 0, 7]), (7, [0, 0, 0, 0, 0, 0, 7]), (4, [0, 0, 0, 0, 0, 0, 7]), (8, [0, 0, 0, 0, 0, 0, 7])], [], [], [], [], [], [], 0⟩ Tryz.f143 = some f441 := by kernel_rfl
theorem cs373 : CloneShape X0 Tryz.f69 4 2872193639704 := ⟨⟨_, _, _, _, _, _, _, _, rfl, by kernel_rfl, by kernel_rfl, ⟨.agg [.int .i64 0, .int .i64 0, .int .i64 0, .nils], by kernel_rfl, by decide, by kernel_rfl⟩, ⟨_, _, _, 65, rfl, by kernel_rfl, rfl, rfl, rfl, by kernel_rfl⟩⟩, rfl, by decide⟩
theorem cs407 : CloneShape X0 Tryz.f105 1 8278675785407 := ⟨⟨_, _, _, _, _, _, _, _, rfl, by kernel_rfl, by kernel_rfl, ⟨.str [], by kernel_rfl, by decide, by kernel_rfl⟩, ⟨_, _, _, 9, rfl, by kernel_rfl, rfl, rfl, rfl, by kernel_rfl⟩⟩, rfl, by decide⟩
theorem hinjF : distinctB fnumL = true := by kernel_rfl
theorem hinjT : distinctB (tnumL.map (·.2)) = true := by kernel_rfl
theorem fnFacts : AllFacts X0 envTab := ⟨⟨3, Tryz.f3, _, _, rfl, Tryz.func3, by kernel_rfl, rfl, tr309, by decide +kernel⟩,
  ⟨5, Tryz.f5, _, _, rfl, Tryz.func5, by kernel_rfl, rfl, tr311, by decide +kernel⟩,
  ⟨6, Tryz.f6, _, _, rfl, Tryz.func6, by kernel_rfl, rfl, tr312, by decide +kernel⟩,
  ⟨7, Tryz.f7, _, _, rfl, Tryz.func7, by kernel_rfl, rfl, tr313, by decide +kernel⟩,
  ⟨8, Tryz.f8, _, _, rfl, Tryz.func8, by kernel_rfl, rfl, tr314, by decide +kernel⟩,
  ⟨9, Tryz.f9, _, _, rfl, Tryz.func9, by kernel_rfl, rfl, tr315, by decide +kernel⟩,
  ⟨10, Tryz.f10, _, _, rfl, Tryz.func10, by kernel_rfl, rfl, tr316, by decide +kernel⟩,
  ⟨11, Tryz.f11, _, _, rfl, Tryz.func11, by kernel_rfl, rfl, tr317, by decide +kernel⟩,
  ⟨12, Tryz.f12, _, _, rfl, Tryz.func12, by kernel_rfl, rfl, tr318, by decide +kernel⟩,
  ⟨13, Tryz.f13, _, _, rfl, Tryz.func13, by kernel_rfl, rfl, tr319, by decide +kernel⟩,
  ⟨14, Tryz.f14, _, _, rfl, Tryz.func14, by kernel_rfl, rfl, tr320, by decide +kernel⟩,
  ⟨15, Tryz.f15, _, _, rfl, Tryz.func15, by kernel_rfl, rfl, tr321, by decide +kernel⟩,
  ⟨16, Tryz.f16, _, _, rfl, Tryz.func16, by kernel_rfl, rfl, tr322, by decide +kernel⟩,
  ⟨17, Tryz.f17, _, _, rfl, Tryz.func17, by kernel_rfl, rfl, tr323, by decide +kernel⟩,
  ⟨25, Tryz.f25, _, _, rfl, Tryz.func25, by kernel_rfl, rfl, tr331, by decide +kernel⟩,
  ⟨26, Tryz.f26, _, _, rfl, Tryz.func26, by kernel_rfl, rfl, tr85, by decide +kernel⟩,
  ⟨27, Tryz.f27, _, _, rfl, Tryz.func27, by kernel_rfl, rfl, tr332, by decide +kernel⟩,
  ⟨28, Tryz.f28, _, _, rfl, Tryz.func28, by kernel_rfl, rfl, tr333, by decide +kernel⟩,
  ⟨29, Tryz.f29, _, _, rfl, Tryz.func29, by kernel_rfl, rfl, tr334, by decide +kernel⟩,
  ⟨30, Tryz.f30, _, _, rfl, Tryz.func30, by kernel_rfl, rfl, tr93, by decide +kernel⟩,
  ⟨31, Tryz.f31, _, _, rfl, Tryz.func31, by kernel_rfl, rfl, tr335, by decide +kernel⟩,
  ⟨32, Tryz.f32, _, _, rfl, Tryz.func32, by kernel_rfl, rfl, tr336, by decide +kernel⟩,
  ⟨33, Tryz.f33, _, _, rfl, Tryz.func33, by kernel_rfl, rfl, tr337, by decide +kernel⟩,
  ⟨34, Tryz.f34, _, _, rfl, Tryz.func34, by kernel_rfl, rfl, tr338, by decide +kernel⟩,
  ⟨35, Tryz.f35, _, _, rfl, Tryz.func35, by kernel_rfl, rfl, tr339, by decide +kernel⟩,
  ⟨36, Tryz.f36, _, _, rfl, Tryz.func36, by kernel_rfl, rfl, tr340, by decide +kernel⟩,
  ⟨37, Tryz.f37, _, _, rfl, Tryz.func37, by kernel_rfl, rfl, tr341, by decide +kernel⟩,
  ⟨38, Tryz.f38, _, _, rfl, Tryz.func38, by kernel_rfl, rfl, tr342, by decide +kernel⟩,
  ⟨39, Tryz.f39, _, _, rfl, Tryz.func39, by kernel_rfl, rfl, tr343, by decide +kernel⟩,
  ⟨40, Tryz.f40, _, _, rfl, Tryz.func40, by kernel_rfl, rfl, tr344, by decide +kernel⟩,
  ⟨41, Tryz.f41, _, _, rfl, Tryz.func41, by kernel_rfl, rfl, tr345, by decide +kernel⟩,
  ⟨42, Tryz.f42, _, _, rfl, Tryz.func42, by kernel_rfl, rfl, tr346, by decide +kernel⟩,
  ⟨43, Tryz.f43, _, _, rfl, Tryz.func43, by kernel_rfl, rfl, tr347, by decide +kernel⟩,
  ⟨44, Tryz.f44, _, _, rfl, Tryz.func44, by kernel_rfl, rfl, tr348, by decide +kernel⟩,
  ⟨45, Tryz.f45, _, _, rfl, Tryz.func45, by kernel_rfl, rfl, tr349, by decide +kernel⟩,
  ⟨46, Tryz.f46, _, _, rfl, Tryz.func46, by kernel_rfl, rfl, tr350, by decide +kernel⟩,
  ⟨47, Tryz.f47, _, _, rfl, Tryz.func47, by kernel_rfl, rfl, tr351, by decide +kernel⟩,
  ⟨48, Tryz.f48, _, _, rfl, Tryz.func48, by kernel_rfl, rfl, tr352, by decide +kernel⟩,
  ⟨49, Tryz.f49, _, _, rfl, Tryz.func49, by kernel_rfl, rfl, tr353, by decide +kernel⟩,
  ⟨62, Tryz.f62, _, _, rfl, Tryz.func62, by kernel_rfl, rfl, tr366, by decide +kernel⟩,
  ⟨63, Tryz.f63, _, _, rfl, Tryz.func63, by kernel_rfl, rfl, tr367, by decide +kernel⟩,
  ⟨64, Tryz.f64, _, _, rfl, Tryz.func64, by kernel_rfl, rfl, tr368, by decide +kernel⟩,
  ⟨65, Tryz.f65, _, _, rfl, Tryz.func65, by kernel_rfl, rfl, tr369, by decide +kernel⟩,
  ⟨66, Tryz.f66, _, _, rfl, Tryz.func66, by kernel_rfl, rfl, tr370, by decide +kernel⟩,
  ⟨67, Tryz.f67, _, _, rfl, Tryz.func67, by kernel_rfl, rfl, tr371, by decide +kernel⟩,
  ⟨68, Tryz.f68, _, _, rfl, Tryz.func68, by kernel_rfl, rfl, tr372, by decide +kernel⟩,
  ⟨70, Tryz.f70, _, _, rfl, Tryz.func70, by kernel_rfl, rfl, tr374, by decide +kernel⟩,
  ⟨71, Tryz.f71, _, _, rfl, Tryz.func71, by kernel_rfl, rfl, tr375, by decide +kernel⟩,
  ⟨72, Tryz.f72, _, _, rfl, Tryz.func72, by kernel_rfl, rfl, tr376, by decide +kernel⟩,
  ⟨73, Tryz.f73, _, _, rfl, Tryz.func73, by kernel_rfl, rfl, tr377, by decide +kernel⟩,
  ⟨74, Tryz.f74, _, _, rfl, Tryz.func74, by kernel_rfl, rfl, tr378, by decide +kernel⟩,
  ⟨75, Tryz.f75, _, _, rfl, Tryz.func75, by kernel_rfl, rfl, tr379, by decide +kernel⟩,
  ⟨76, Tryz.f76, _, _, rfl, Tryz.func76, by kernel_rfl, rfl, tr380, by decide +kernel⟩,
  ⟨77, Tryz.f77, _, _, rfl, Tryz.func77, by kernel_rfl, rfl, tr381, by decide +kernel⟩,
  ⟨78, Tryz.f78, _, _, rfl, Tryz.func78, by kernel_rfl, rfl, tr382, by decide +kernel⟩,
  ⟨79, Tryz.f79, _, _, rfl, Tryz.func79, by kernel_rfl, rfl, tr383, by decide +kernel⟩,
  ⟨80, Tryz.f80, _, _, rfl, Tryz.func80, by kernel_rfl, rfl, tr384, by decide +kernel⟩,
  ⟨81, Tryz.f81, _, _, rfl, Tryz.func81, by kernel_rfl, rfl, tr385, by decide +kernel⟩,
  ⟨82, Tryz.f82, _, _, rfl, Tryz.func82, by kernel_rfl, rfl, tr386, by decide +kernel⟩,
  ⟨83, Tryz.f83, _, _, rfl, Tryz.func83, by kernel_rfl, rfl, tr387, by decide +kernel⟩,
  ⟨84, Tryz.f84, _, _, rfl, Tryz.func84, by kernel_rfl, rfl, tr388, by decide +kernel⟩,
  ⟨85, Tryz.f85, _, _, rfl, Tryz.func85, by kernel_rfl, rfl, tr389, by decide +kernel⟩,
  ⟨86, Tryz.f86, _, _, rfl, Tryz.func86, by kernel_rfl, rfl, tr390, by decide +kernel⟩,
  ⟨87, Tryz.f87, _, _, rfl, Tryz.func87, by kernel_rfl, rfl, tr391, by decide +kernel⟩,
  ⟨88, Tryz.f88, _, _, rfl, Tryz.func88, by kernel_rfl, rfl, tr392, by decide +kernel⟩,
  ⟨89, Tryz.f89, _, _, rfl, Tryz.func89, by kernel_rfl, rfl, tr393, by decide +kernel⟩,
  ⟨90, Tryz.f90, _, _, rfl, Tryz.func90, by kernel_rfl, rfl, tr394, by decide +kernel⟩,
  ⟨91, Tryz.f91, _, _, rfl, Tryz.func91, by kernel_rfl, rfl, tr395, by decide +kernel⟩,
  ⟨97, Tryz.f97, _, _, rfl, Tryz.func97, by kernel_rfl, rfl, tr400, by decide +kernel⟩,
  ⟨98, Tryz.f98, _, _, rfl, Tryz.func98, by kernel_rfl, rfl, tr401, by decide +kernel⟩,
  ⟨99, Tryz.f99, _, _, rfl, Tryz.func99, by kernel_rfl, rfl, tr402, by decide +kernel⟩,
  ⟨100, Tryz.f100, _, _, rfl, Tryz.func100, by kernel_rfl, rfl, tr259, by decide +kernel⟩,
  ⟨101, Tryz.f101, _, _, rfl, Tryz.func101, by kernel_rfl, rfl, tr403, by decide +kernel⟩,
  ⟨102, Tryz.f102, _, _, rfl, Tryz.func102, by kernel_rfl, rfl, tr404, by decide +kernel⟩,
  ⟨103, Tryz.f103, _, _, rfl, Tryz.func103, by kernel_rfl, rfl, tr405, by decide +kernel⟩,
  ⟨104, Tryz.f104, _, _, rfl, Tryz.func104, by kernel_rfl, rfl, tr406, by decide +kernel⟩,
  ⟨106, Tryz.f106, _, _, rfl, Tryz.func106, by kernel_rfl, rfl, tr408, by decide +kernel⟩,
  ⟨107, Tryz.f107, _, _, rfl, Tryz.func107, by kernel_rfl, rfl, tr409, by decide +kernel⟩,
  ⟨108, Tryz.f108, _, _, rfl, Tryz.func108, by kernel_rfl, rfl, tr410, by decide +kernel⟩,
  ⟨109, Tryz.f109, _, _, rfl, Tryz.func109, by kernel_rfl, rfl, tr411, by decide +kernel⟩,
  ⟨110, Tryz.f110, _, _, rfl, Tryz.func110, by kernel_rfl, rfl, tr412, by decide +kernel⟩,
  ⟨111, Tryz.f111, _, _, rfl, Tryz.func111, by kernel_rfl, rfl, tr413, by decide +kernel⟩,
  ⟨112, Tryz.f112, _, _, rfl, Tryz.func112, by kernel_rfl, rfl, tr414, by decide +kernel⟩,
  ⟨113, Tryz.f113, _, _, rfl, Tryz.func113, by kernel_rfl, rfl, tr415, by decide +kernel⟩,
  ⟨114, Tryz.f114, _, _, rfl, Tryz.func114, by kernel_rfl, rfl, tr416, by decide +kernel⟩,
  ⟨115, Tryz.f115, _, _, rfl, Tryz.func115, by kernel_rfl, rfl, tr417, by decide +kernel⟩,
  ⟨116, Tryz.f116, _, _, rfl, Tryz.func116, by kernel_rfl, rfl, tr418, by decide +kernel⟩,
  ⟨122, Tryz.f122, _, _, rfl, Tryz.func122, by kernel_rfl, rfl, tr422, by decide +kernel⟩,
  ⟨123, Tryz.f123, _, _, rfl, Tryz.func123, by kernel_rfl, rfl, tr423, by decide +kernel⟩,
  ⟨124, Tryz.f124, _, _, rfl, Tryz.func124, by kernel_rfl, rfl, tr280, by decide +kernel⟩,
  ⟨125, Tryz.f125, _, _, rfl, Tryz.func125, by kernel_rfl, rfl, tr424, by decide +kernel⟩,
  ⟨126, Tryz.f126, _, _, rfl, Tryz.func126, by kernel_rfl, rfl, tr425, by decide +kernel⟩,
  ⟨127, Tryz.f127, _, _, rfl, Tryz.func127, by kernel_rfl, rfl, tr426, by decide +kernel⟩,
  ⟨128, Tryz.f128, _, _, rfl, Tryz.func128, by kernel_rfl, rfl, tr427, by decide +kernel⟩,
  ⟨129, Tryz.f129, _, _, rfl, Tryz.func129, by kernel_rfl, rfl, tr428, by decide +kernel⟩,
  ⟨130, Tryz.f130, _, _, rfl, Tryz.func130, by kernel_rfl, rfl, tr429, by decide +kernel⟩,
  ⟨131, Tryz.f131, _, _, rfl, Tryz.func131, by kernel_rfl, rfl, tr430, by decide +kernel⟩,
  ⟨133, Tryz.f133, _, _, rfl, Tryz.func133, by kernel_rfl, rfl, tr431, by decide +kernel⟩,
  ⟨134, Tryz.f134, _, _, rfl, Tryz.func134, by kernel_rfl, rfl, tr432, by decide +kernel⟩,
  ⟨135, Tryz.f135, _, _, rfl, Tryz.func135, by kernel_rfl, rfl, tr433, by decide +kernel⟩,
  ⟨136, Tryz.f136, _, _, rfl, Tryz.func136, by kernel_rfl, rfl, tr434, by decide +kernel⟩,
  ⟨137, Tryz.f137, _, _, rfl, Tryz.func137, by kernel_rfl, rfl, tr435, by decide +kernel⟩,
  ⟨138, Tryz.f138, _, _, rfl, Tryz.func138, by kernel_rfl, rfl, tr436, by decide +kernel⟩,
  ⟨139, Tryz.f139, _, _, rfl, Tryz.func139, by kernel_rfl, rfl, tr437, by decide +kernel⟩,
  ⟨140, Tryz.f140, _, _, rfl, Tryz.func140, by kernel_rfl, rfl, tr438, by decide +kernel⟩,
  ⟨141, Tryz.f141, _, _, rfl, Tryz.func141, by kernel_rfl, rfl, tr439, by decide +kernel⟩,
  ⟨142, Tryz.f142, _, _, rfl, Tryz.func142, by kernel_rfl, rfl, tr440, by decide +kernel⟩,
  ⟨143, Tryz.f143, _, _, rfl, Tryz.func143, by kernel_rfl, rfl, tr441, by decide +kernel⟩, trivial⟩
theorem hinjX : ∀ t1 t2 k, X0.tnum t1 = some k → X0.tnum t2 = some k → t1 = t2 := (envOk_of (P := Tryz.prog) (fl := fnumL) (tl := tnumL) (tab := []) (ext := []) hinjF hinjT (by kernel_rfl) trivial trivial).inj
theorem extFacts : AllExt X0 envExt := ⟨⟨69, rfl, fun _ _ h => clone_sound hinjX Tryz.func69 (by kernel_rfl) cs373 h⟩,
  ⟨105, rfl, fun _ _ h => clone_sound hinjX Tryz.func105 (by kernel_rfl) cs407 h⟩, trivial⟩
theorem envOk : EnvSnd X0 E := envOk_of (P := Tryz.prog) (fl := fnumL) (tl := tnumL) hinjF hinjT (by kernel_rfl) fnFacts extFacts
end Go.AM
