/-
  Texts of the proof, joined by program: AmFns. Own work.
-/
import Derived.Test.YtijdfmemdmmebaaGreatBase
set_option linter.unusedSimpArgs false
set_option linter.unusedVariables false
namespace Go.AM

/-! 75: hachure/hachurelaw15.GatherSame -/
def f75_b : ACode :=
  (.seq (.region [od 5 (.new 96 3 (.tmp 1)), od 6 (.new 112 2 (.tmp 2)), od 8 (.move (.const (.bool false)))])
  (.seq (.region [od 11 (.call 192 false (fc 5) []), od 9 (.move (.tmp 11))])
  (.seq (.region [od 12 (.move (.tmp 0)), od 13 (.move (.tmp 0)), od 14 (.len (.tmp 13)), od 15 (.min [(.tmp 14), (ic 8)]),
 od 16 (.slice 1 (.tmp 12) none (some (.tmp 15)) none), od 17 (.call 288 false (fc 77) [(.tmp 16)]), od 10 (.new 176 4 (.const (.agg [.lit 4 [], .lit 5 [], .lit 8 [], .lit 7 []]))), ow (.store true 4 (.tmp 10) (.tmp 17))])
  (.seq (.drawn [od 18 (.move (.tmp 9)), op 19 (.move (.tmp 18)) [0], ⟨some 20, .load true 4 (.tmp 10), some (19, true), [1]⟩, ⟨some 21, .load true 2 (.tmp 6), some (19, true), [1]⟩,
 ⟨some 22, .move (.tmp 3), some (19, true), [1]⟩, ⟨some 23, .call 384 false (fc 78) [(.tmp 20), (.tmp 21), (.tmp 22)], some (19, true), [2, 3, 4, 1, 1]⟩, op 24 (.pick (.tmp 19) (.tmp 23) (.const (.bool false))) [1, 5], op 25 (.move (.tmp 24)) [6, 5],
 ⟨some 26, .load true 4 (.tmp 10), some (25, true), [7]⟩, ⟨some 27, .load true 3 (.tmp 5), some (25, true), [7]⟩, ⟨some 28, .call 464 false (fc 79) [(.tmp 26), (.tmp 27)], some (25, true), [8, 9, 7, 7]⟩, ⟨some 29, .load true 2 (.tmp 6), some (25, true), [7]⟩,
 ⟨some 30, .move (.tmp 3), some (25, true), [7]⟩, ⟨some 31, .call 512 false (fc 78) [(.tmp 28), (.tmp 29), (.tmp 30)], some (25, true), [10, 11, 12, 10, 7]⟩, op 32 (.pick (.tmp 25) (.tmp 31) (.const (.bool false))) [7, 13], op 8 (.move (.tmp 32)) ([14, 13] ++ rg 15)])
  .ret))))
def f75 : AFunc := ⟨4, 33, [], [.tmp 8], f75_b⟩

/-! 5: hachure/hachurelaw15.sanity -/
def f5_b : ACode :=
  (.seq (.region [od 0 (.move (.const (.bool false)))])
  (.seq (.region [od 7 (.call 128 false (fc 13) []), od 1 (.new 32 4 (.const (.agg [.lit 4 [], .lit 5 [], .lit 8 [], .lit 7 []]))), ow (.store true 4 (.tmp 1) (.tmp 7))])
  (.seq (.region [od 8 (.load true 4 (.tmp 1)), od 9 (.call 160 false (fc 8) [(.tmp 8), (ic 2), (ic 1)]), od 10 (.bin .eql (.tmp 9) (ic 0)), od 11 (.move (.tmp 10)),
 ⟨some 12, .load true 4 (.tmp 1), some (11, true), []⟩, ⟨some 13, .call 224 false (fc 8) [(.tmp 12), (ic 1), (ic 2)], some (11, true), []⟩, ⟨some 14, .bin .eql (.tmp 13) (ic 1), some (11, true), []⟩, od 15 (.pick (.tmp 11) (.tmp 14) (.const (.bool false))),
 od 16 (.move (.tmp 15)), ⟨some 17, .load true 4 (.tmp 1), some (16, true), []⟩, ⟨some 18, .call 304 false (fc 8) [(.tmp 17), (ic 3), (ic 1)], some (16, true), []⟩, ⟨some 19, .bin .eql (.tmp 18) (ic 0), some (16, true), []⟩,
 od 20 (.pick (.tmp 16) (.tmp 19) (.const (.bool false))), od 21 (.move (.tmp 20)), ⟨some 22, .load true 4 (.tmp 1), some (21, true), []⟩, ⟨some 23, .call 384 false (fc 8) [(.tmp 22), (ic 4), (ic 3)], some (21, true), []⟩,
 ⟨some 24, .bin .eql (.tmp 23) (ic 24), some (21, true), []⟩, od 25 (.pick (.tmp 21) (.tmp 24) (.const (.bool false))), od 26 (.move (.tmp 25)), ⟨some 27, .load true 4 (.tmp 1), some (26, true), []⟩,
 ⟨some 28, .call 464 false (fc 8) [(.tmp 27), (ic 5), (ic 1)], some (26, true), []⟩, ⟨some 29, .bin .eql (.tmp 28) (ic 1), some (26, true), []⟩, od 30 (.pick (.tmp 26) (.tmp 29) (.const (.bool false))), od 31 (.move (.tmp 30)),
 ⟨some 32, .load true 4 (.tmp 1), some (31, true), []⟩, ⟨some 33, .call 544 false (fc 8) [(.tmp 32), (ic 3), (ic 9)], some (31, true), []⟩, ⟨some 34, .bin .eql (.tmp 33) (ic 5), some (31, true), []⟩, od 35 (.pick (.tmp 31) (.tmp 34) (.const (.bool false))),
 od 2 (.move (.tmp 35))])
  (.seq (.region [od 36 (.load true 4 (.tmp 1)), od 37 (.call 608 false (fc 12) [(.tmp 36), (ic 2), (ic 1)]), od 38 (.bin .eql (.tmp 37) (ic 12)), od 39 (.move (.tmp 38)),
 ⟨some 40, .load true 4 (.tmp 1), some (39, true), []⟩, ⟨some 41, .call 672 false (fc 12) [(.tmp 40), (ic 3), (ic 1)], some (39, true), []⟩, ⟨some 42, .bin .eql (.tmp 41) (ic 2), some (39, true), []⟩, od 43 (.pick (.tmp 39) (.tmp 42) (.const (.bool false))),
 od 44 (.move (.tmp 43)), ⟨some 45, .load true 4 (.tmp 1), some (44, true), []⟩, ⟨some 46, .call 752 false (fc 12) [(.tmp 45), (ic 5), (ic 1)], some (44, true), []⟩, ⟨some 47, .bin .eql (.tmp 46) (ic 0), some (44, true), []⟩,
 od 48 (.pick (.tmp 44) (.tmp 47) (.const (.bool false))), od 3 (.move (.tmp 48))])
  (.seq (.region [od 50 (.load true 4 (.tmp 1)), od 51 (.call 832 false (fc 7) [(.tmp 50), (ic 3), (ic 1)]), od 49 (.move (.tmp 51)), od 52 (.extract (.tmp 49) 0),
 od 53 (.extract (.tmp 49) 1), od 4 (.new 80 4 (.const (.agg [.lit 4 [], .lit 5 [], .lit 8 [], .lit 7 []]))), ow (.store true 4 (.tmp 4) (.tmp 52)), od 5 (.move (.tmp 53))])
  (.seq (.seq (.drawn [od 54 (.move (.tmp 5)), op 55 (.bin .neq (.tmp 54) (ic 0)) [0], op 56 (.move (.tmp 55)) [1], ⟨some 57, .fieldAddr 3 (.tmp 4), some (56, false), [2]⟩,
 ⟨some 58, .load false 1 (.tmp 57), some (56, false), [3, 2]⟩, ⟨some 59, .len (.tmp 58), some (56, false), [4, 2]⟩, ⟨some 60, .bin .neq (.tmp 59) (ic 4), some (56, false), [5, 2]⟩, op 61 (.pick (.tmp 56) (.const (.bool true)) (.tmp 60)) [2, 6],
 op 62 (.move (.tmp 61)) [7, 2], ⟨some 63, .fieldAddr 3 (.tmp 4), some (62, false), [8]⟩, ⟨some 64, .load false 1 (.tmp 63), some (62, false), [9, 8]⟩, ⟨some 65, .indexAddr 7 (.tmp 64) (ic 0), some (62, false), [10, 8]⟩,
 ⟨some 66, .load true 7 (.tmp 65), some (62, false), [11, 8]⟩, ⟨some 67, .call 1088 false (fc 14) [(ic 1), (.const (.str [116, 114, 101, 101])), (.const (.str [69, 108, 109])), (ic 5), (ic 0), (ic 0)], some (62, false), [8, 8]⟩, ⟨some 68, .eqA true [1, 1, 1, 2, 2, 1, 1] (.tmp 66) (.tmp 67), some (62, false), [12, 13, 8]⟩, op 69 (.pick (.tmp 62) (.const (.bool true)) (.tmp 68)) [8, 14]])
  (.cond (.tmp 69)
  (.seq (.region [od 0 (.move (.const (.bool false)))])
  .ret)
  .skip))
  (.seq (.region [od 70 (.build [.int .i64 0, .int .i64 0, .int .i64 0, .int .i64 0, .int .i64 0] [(0, 1, (ic 4)), (1, 1, (ic 12)), (2, 1, (ic 2)), (3, 1, (ic 1))]), od 71 (.build [.int .i64 0, .int .i64 0, .int .i64 0, .int .i64 0, .int .i64 0] [(0, 1, (ic 4)), (1, 1, (ic 2)), (2, 1, (ic 3)), (3, 1, (ic 1))]), od 72 (.build [.int .i64 0, .int .i64 0, .int .i64 0, .int .i64 0, .int .i64 0] [(0, 1, (ic 4)), (1, 1, (ic 18)), (2, 1, (ic 4)), (3, 1, (ic 2))]), od 73 (.buildSlice 1184 5 (.agg [.int .i64 0, .int .i64 0, .int .i64 0, .int .i64 0, .int .i64 0]) 3 [(0, (.tmp 70)), (1, (.tmp 71)), (2, (.tmp 72))]),
 od 6 (.ren 113 (.tmp 73))])
  (.seq (.region [od 74 (.move (.tmp 2)), od 75 (.move (.tmp 74)), ⟨some 76, .move (.tmp 3), some (75, true), []⟩, od 77 (.pick (.tmp 75) (.tmp 76) (.const (.bool false))),
 od 78 (.move (.tmp 77)), ⟨some 79, .load true 4 (.tmp 1), some (78, true), []⟩, ⟨some 80, .call 1296 false (fc 9) [(.tmp 79), (ic 1)], some (78, true), []⟩, ⟨some 81, .move (.tmp 6), some (78, true), []⟩,
 ⟨some 82, .call 1328 false (fc 10) [(.tmp 80), (.tmp 81)], some (78, true), []⟩, od 83 (.pick (.tmp 78) (.tmp 82) (.const (.bool false))), od 0 (.move (.tmp 83))])
  .ret))))))))
def f5 : AFunc := ⟨0, 84, [], [.tmp 0], f5_b⟩

/-! 77: hachure/hachureref10.Made -/
abbrev f77_l0 : ACode :=
  (.seq (.seq (.region [od 22 (.move (.tmp 5)), od 23 (.fieldAddr 1 (.tmp 3)), od 24 (.load false 1 (.tmp 23)), od 25 (.len (.tmp 24)),
 od 26 (.bin .lss (.tmp 22) (.tmp 25))])
  (.cond (.tmp 26)
  .skip
  (.exit 0)))
  (.seq (.block 1 (.seq (.region [od 29 (.fieldAddr 1 (.tmp 3)), od 30 (.load false 1 (.tmp 29)), od 31 (.move (.tmp 5)), od 32 (.indexAddr 5 (.tmp 30) (.tmp 31)),
 od 6 (.move (.tmp 32))])
  (.seq (.region [od 33 (.move (.tmp 6)), od 34 (.buildSlice 560 1 (.str []) 3 [(0, (.const (.str [102, 105, 101, 108, 100]))), (1, (.const (.str [119, 111, 111, 100]))), (2, (.const (.str [108, 97, 107, 101])))]), od 35 (.move (.tmp 4)), od 36 (.call 592 false (fc 85) [(.tmp 35), (ic 3)]),
 od 37 (.indexAddr 1 (.tmp 34) (.tmp 36)), od 38 (.load false 1 (.tmp 37)), od 39 (.nilCheck (.tmp 33)), od 40 (.fieldAddr 1 (.tmp 39)),
 ow (.store false 1 (.tmp 40) (.tmp 38))])
  (.seq (.region [od 41 (.move (.tmp 6)), od 42 (.buildSlice 688 1 (.str []) 6 [(0, (.const (.str []))), (1, (.const (.str []))), (2, (.const (.str []))), (3, (.const (.str [77, 111, 111, 114]))), (4, (.const (.str [72, 111, 108, 109]))), (5, (.const (.str [78, 111, 114, 116, 104, 32, 77, 111, 111, 114])))]), od 43 (.move (.tmp 4)), od 44 (.call 720 false (fc 85) [(.tmp 43), (ic 6)]),
 od 45 (.indexAddr 1 (.tmp 42) (.tmp 44)), od 46 (.load false 1 (.tmp 45)), od 47 (.nilCheck (.tmp 41)), od 48 (.fieldAddr 2 (.tmp 47)),
 ow (.store false 1 (.tmp 48) (.tmp 46))])
  (.seq (.region [od 49 (.move (.tmp 6)), od 50 (.move (.tmp 4)), od 51 (.call 832 false (fc 85) [(.tmp 50), (ic 60)]), od 52 (.bin .add (ic 1) (.tmp 51)),
 od 53 (.nilCheck (.tmp 49)), od 54 (.fieldAddr 3 (.tmp 53)), ow (.store false 1 (.tmp 54) (.tmp 52))])
  (.region [od 55 (.move (.tmp 6)), od 56 (.move (.tmp 4)), od 57 (.call 928 false (fc 85) [(.tmp 56), (ic 4)]), od 58 (.move (.tmp 4)),
 od 59 (.call 960 false (fc 85) [(.tmp 58), (ic 2)]), od 60 (.bin .mul (.tmp 57) (.tmp 59)), od 61 (.bin .rem (.tmp 60) (ic 3)), od 62 (.bin .add (ic 1) (.tmp 61)),
 od 63 (.nilCheck (.tmp 55)), od 64 (.fieldAddr 4 (.tmp 63)), ow (.store false 1 (.tmp 64) (.tmp 62))]))))))
  (.region [od 27 (.move (.tmp 5)), od 28 (.bin .add (.tmp 27) (ic 1)), od 5 (.move (.tmp 28))])))
def f77_b : ACode :=
  (.seq (.region [od 2 (.new 48 4 (.const (.agg [.lit 4 [], .lit 5 [], .lit 8 [], .lit 7 []])))])
  (.seq (.region [od 3 (.new 64 4 (.const (.agg [.lit 4 [], .lit 5 [], .lit 8 [], .lit 7 []])))])
  (.seq (.region [od 8 (.move (.tmp 0)), od 9 (.move (.tmp 0)), od 10 (.len (.tmp 9)), od 11 (.min [(.tmp 10), (ic 3)]),
 od 12 (.slice 1 (.tmp 8) none (some (.tmp 11)) none), od 13 (.call 224 true (fc 83) [(.tmp 12)]), od 7 (.move (.tmp 13)), od 14 (.extract (.tmp 7) 0),
 od 15 (.extract (.tmp 7) 1), od 16 (.fieldAddr 0 (.tmp 3)), ow (.store false 1 (.tmp 16) (.tmp 14)), od 17 (.fieldAddr 1 (.tmp 3)),
 ow (.store false 1 (.tmp 17) (.tmp 15))])
  (.seq (.region [od 18 (.move (.tmp 0)), od 19 (.call 320 false (fc 84) [(.tmp 18), (ic 3)]), od 20 (.build [.lit 1 [], .int .i64 0] [(0, 1, (.tmp 19))]), od 21 (.new 352 2 (.tmp 20)),
 od 4 (.move (.tmp 21))])
  (.seq (.seq (.region [od 5 (.move (ic 0))])
  (.block 0 (.loop f77_l0)))
  (.seq (.region [od 65 (.move (.tmp 0)), od 66 (.call 1072 false (fc 84) [(.tmp 65), (ic 4)]), od 67 (.call 1088 true (fc 86) [(.tmp 66)]), od 68 (.fieldAddr 2 (.tmp 3)),
 ow (.store false 1 (.tmp 68) (.tmp 67))])
  (.seq (.drawn [od 69 (.load true 4 (.tmp 3)), od 70 (.move (.tmp 0)), op 71 (.call 1152 false (fc 84) [(.tmp 70), (ic 5)]) [1], op 72 (.call 1168 true (fc 87) [(.tmp 69), (.tmp 71)]) [0, 2, 2],
 op 73 (.fieldAddr 3 (.tmp 3)) [0, 1, 2, 3], ⟨none, .store false 1 (.tmp 73) (.tmp 72), none, [4, 3, 3, 0, 1, 2, 3]⟩])
  (.seq (.region [od 74 (.load true 4 (.tmp 3)), ow (.store true 4 (.tmp 2) (.tmp 74))])
  .ret))))))))
def f77 : AFunc := ⟨1, 75, [], [.cell 2 true 4], f77_b⟩

/-! 78: hachure/hachurelaw15.same -/
abbrev f78_l0 : ACode :=
  (.seq (.region [od 33 (.bin .lss (.tmp 32) (.tmp 31))])
  (.seq (.cond (.tmp 33)
  .skip
  (.exit 2))
  (.seq (.block 3 (.seq (.region [od 34 (.indexAddr 7 (.tmp 30) (.tmp 32)), od 35 (.load true 7 (.tmp 34)), od 11 (.new 192 7 (.const (.agg [.int .i64 0, .int .i64 0, .int .i64 0, .str [], .str [], .int .i64 0, .int .i64 0]))), ow (.store true 7 (.tmp 11) (.tmp 35))])
  (.region [od 36 (.move (.tmp 7)), od 37 (.fieldAddr 0 (.tmp 9)), od 38 (.load false 1 (.tmp 37)), od 39 (.fieldAddr 0 (.tmp 11)),
 od 40 (.load false 1 (.tmp 39)), od 41 (.build [.int .i64 0, .int .i64 0] [(0, 1, (.tmp 38)), (1, 1, (.tmp 40))]), od 42 (.buildSlice 688 2 (.agg [.int .i64 0, .int .i64 0]) 1 [(0, (.tmp 41))]), od 43 (.append 129 2 8278675785407 (.tmp 36) (.tmp 42)),
 od 7 (.ren 129 (.tmp 43))])))
  (.region [od 44 (.bin .add (.tmp 32) (ic 1)), od 32 (.move (.tmp 44))]))))
abbrev f78_l1 : ACode :=
  (.seq (.region [od 26 (.bin .lss (.tmp 25) (.tmp 24))])
  (.seq (.cond (.tmp 26)
  .skip
  (.exit 0))
  (.seq (.block 1 (.seq (.region [od 27 (.indexAddr 7 (.tmp 23) (.tmp 25)), od 28 (.load true 7 (.tmp 27)), od 9 (.new 160 7 (.const (.agg [.int .i64 0, .int .i64 0, .int .i64 0, .str [], .str [], .int .i64 0, .int .i64 0]))), ow (.store true 7 (.tmp 9) (.tmp 28))])
  (.seq (.region [od 29 (.fieldAddr 3 (.tmp 3)), od 30 (.load false 1 (.tmp 29)), od 31 (.len (.tmp 30)), od 32 (.move (ic 0))])
  (.block 2 (.loop f78_l0)))))
  (.region [od 45 (.bin .add (.tmp 25) (ic 1)), od 25 (.move (.tmp 45))]))))
abbrev f78_l2 : ACode :=
  (.seq (.region [od 49 (.bin .lss (.tmp 48) (.tmp 47))])
  (.seq (.cond (.tmp 49)
  .skip
  (.exit 4))
  (.seq (.block 5 (.seq (.region [od 50 (.indexAddr 2 (.tmp 46) (.tmp 48)), od 51 (.load true 2 (.tmp 50)), od 13 (.new 224 2 (.const (.agg [.int .i64 0, .int .i64 0]))), ow (.store true 2 (.tmp 13) (.tmp 51))])
  (.seq (.region [od 53 (.load true 4 (.tmp 3)), od 54 (.indexArr 2 1 (.tmp 13) (ic 0)), od 55 (.load false 1 (.tmp 54)), od 56 (.indexArr 2 1 (.tmp 13) (ic 1)),
 od 57 (.load false 1 (.tmp 56)), od 58 (.call 944 false (fc 7) [(.tmp 53), (.tmp 55), (.tmp 57)]), od 52 (.move (.tmp 58)), od 59 (.extract (.tmp 52) 0),
 od 60 (.extract (.tmp 52) 1), od 14 (.new 240 4 (.const (.agg [.lit 4 [], .lit 5 [], .lit 8 [], .lit 7 []]))), ow (.store true 4 (.tmp 14) (.tmp 59)), od 15 (.move (.tmp 60))])
  (.seq (.region [od 62 (.load true 4 (.tmp 3)), od 63 (.indexArr 2 1 (.tmp 13) (ic 0)), od 64 (.load false 1 (.tmp 63)), od 65 (.indexArr 2 1 (.tmp 13) (ic 1)),
 od 66 (.load false 1 (.tmp 65)), od 67 (.call 1088 false (fc 88) [(.tmp 62), (.tmp 64), (.tmp 66)]), od 61 (.move (.tmp 67)), od 68 (.extract (.tmp 61) 0),
 od 69 (.extract (.tmp 61) 1), od 16 (.new 272 4 (.const (.agg [.lit 4 [], .lit 5 [], .lit 8 [], .lit 7 []]))), ow (.store true 4 (.tmp 16) (.tmp 68)), od 17 (.move (.tmp 69))])
  (.seq (.drawn [od 70 (.move (.tmp 15)), od 71 (.move (.tmp 17)), op 72 (.bin .neq (.tmp 70) (.tmp 71)) [0, 1], op 73 (.move (.tmp 72)) [2],
 ⟨some 74, .load true 4 (.tmp 3), some (73, false), [3]⟩, ⟨some 75, .indexArr 2 1 (.tmp 13) (ic 0), some (73, false), [3]⟩, ⟨some 76, .load false 1 (.tmp 75), some (73, false), [5, 3]⟩, ⟨some 77, .indexArr 2 1 (.tmp 13) (ic 1), some (73, false), [3]⟩,
 ⟨some 78, .load false 1 (.tmp 77), some (73, false), [7, 3]⟩, ⟨some 79, .call 1280 false (fc 8) [(.tmp 74), (.tmp 76), (.tmp 78)], some (73, false), [4, 6, 8, 3, 3]⟩, ⟨some 80, .move (.tmp 17), some (73, false), [3]⟩, ⟨some 81, .bin .neq (.tmp 79) (.tmp 80), some (73, false), [9, 10, 3]⟩,
 op 82 (.pick (.tmp 73) (.const (.bool true)) (.tmp 81)) [3, 11], op 83 (.move (.tmp 82)) [12, 9], ⟨some 84, .load true 4 (.tmp 14), some (83, false), [13]⟩, ⟨some 85, .load true 4 (.tmp 16), some (83, false), [13]⟩,
 ⟨some 86, .call 1392 false (fc 89) [(.tmp 84), (.tmp 85)], some (83, false), [14, 15, 13, 13]⟩, ⟨some 87, .un .not (.tmp 86), some (83, false), [16, 13]⟩, op 88 (.pick (.tmp 83) (.const (.bool true)) (.tmp 87)) [13, 17], op 89 (.move (.tmp 88)) [18, 16],
 ⟨some 90, .load true 4 (.tmp 3), some (89, false), [19]⟩, ⟨some 91, .indexArr 2 1 (.tmp 13) (ic 0), some (89, false), [19]⟩, ⟨some 92, .load false 1 (.tmp 91), some (89, false), [21, 19]⟩, ⟨some 93, .indexArr 2 1 (.tmp 13) (ic 1), some (89, false), [19]⟩,
 ⟨some 94, .load false 1 (.tmp 93), some (89, false), [23, 19]⟩, ⟨some 95, .call 1536 false (fc 12) [(.tmp 90), (.tmp 92), (.tmp 94)], some (89, false), [20, 22, 24, 19, 19]⟩, ⟨some 96, .load true 4 (.tmp 3), some (89, false), [19]⟩, ⟨some 97, .indexArr 2 1 (.tmp 13) (ic 0), some (89, false), [19]⟩,
 ⟨some 98, .load false 1 (.tmp 97), some (89, false), [27, 19]⟩, ⟨some 99, .indexArr 2 1 (.tmp 13) (ic 1), some (89, false), [19]⟩, ⟨some 100, .load false 1 (.tmp 99), some (89, false), [29, 19]⟩, ⟨some 101, .call 1632 false (fc 90) [(.tmp 96), (.tmp 98), (.tmp 100)], some (89, false), [26, 28, 30, 25, 19]⟩,
 ⟨some 102, .bin .neq (.tmp 95) (.tmp 101), some (89, false), [25, 31, 19]⟩, op 103 (.pick (.tmp 89) (.const (.bool true)) (.tmp 102)) [19, 32]])
  (.cond (.tmp 103)
  (.seq (.region [od 6 (.move (.const (.bool false)))])
  .ret)
  .skip))))))
  (.region [od 104 (.bin .add (.tmp 48) (ic 1)), od 48 (.move (.tmp 104))]))))
abbrev f78_l3 : ACode :=
  (.seq (.region [od 109 (.bin .lss (.tmp 108) (.tmp 107))])
  (.seq (.cond (.tmp 109)
  .skip
  (.exit 6))
  (.seq (.block 7 (.seq (.region [od 110 (.indexAddr 1 (.tmp 106) (.tmp 108)), od 111 (.load false 1 (.tmp 110)), od 19 (.move (.tmp 111))])
  (.seq (.drawn [od 112 (.load true 4 (.tmp 3)), od 113 (.move (.tmp 19)), op 114 (.call 1840 false (fc 9) [(.tmp 112), (.tmp 113)]) [0, 1], od 115 (.load true 4 (.tmp 3)),
 od 116 (.move (.tmp 19)), op 117 (.call 1888 false (fc 91) [(.tmp 115), (.tmp 116)]) [3, 4, 2], op 118 (.call 1904 false (fc 10) [(.tmp 114), (.tmp 117)]) [2, 5, 5], op 119 (.un .not (.tmp 118)) [6]])
  (.cond (.tmp 119)
  (.seq (.region [od 6 (.move (.const (.bool false)))])
  .ret)
  .skip))))
  (.region [od 120 (.bin .add (.tmp 108) (ic 1)), od 108 (.move (.tmp 120))]))))
def f78_b : ACode :=
  (.seq (.region [od 3 (.new 64 4 (.tmp 0)), od 4 (.new 80 2 (.tmp 1)), od 6 (.move (.const (.bool false)))])
  (.seq (.region [od 20 (.load true 2 (.tmp 4)), od 21 (.buildSlice 352 2 (.agg [.int .i64 0, .int .i64 0]) 1 [(0, (.tmp 20))]), od 7 (.ren 129 (.tmp 21))])
  (.seq (.seq (.region [od 22 (.fieldAddr 3 (.tmp 3)), od 23 (.load false 1 (.tmp 22)), od 24 (.len (.tmp 23)), od 25 (.move (ic 0))])
  (.block 0 (.loop f78_l1)))
  (.seq (.seq (.region [od 46 (.move (.tmp 7)), od 47 (.len (.tmp 46)), od 48 (.move (ic 0))])
  (.block 4 (.loop f78_l2)))
  (.seq (.seq (.region [od 105 (.move (.tmp 2)), od 106 (.buildSlice 1712 1 (.int .i64 0) 5 [(0, (.tmp 105)), (1, (ic 0)), (2, (ic 1)), (3, (ic 2)), (4, (ic 3))]), od 107 (.len (.tmp 106)), od 108 (.move (ic 0))])
  (.block 6 (.loop f78_l3)))
  (.seq (.region [od 6 (.move (.const (.bool true)))])
  .ret))))))
def f78 : AFunc := ⟨3, 121, [], [.tmp 6], f78_b⟩

/-! 79: hachure/hachureref10.Odd -/
abbrev f79_l0 : ACode :=
  (.seq (.seq (.region [od 354 (.move (.tmp 9)), od 355 (.move (.tmp 6)), od 356 (.bin .rem (.tmp 355) (ic 4)), od 357 (.bin .add (ic 79) (.tmp 356)),
 od 358 (.bin .lss (.tmp 354) (.tmp 357))])
  (.cond (.tmp 358)
  .skip
  (.exit 1)))
  (.seq (.block 2 (.region [od 361 (.fieldAddr 3 (.tmp 5)), od 362 (.load false 1 (.tmp 361)), od 363 (.move (.tmp 9)), od 364 (.bin .add (ic 1000) (.tmp 363)),
 od 365 (.move (.tmp 9)), od 366 (.bin .rem (.tmp 365) (ic 3)), od 367 (.bin .add (ic 90) (.tmp 366)), od 368 (.build [.int .i64 0, .int .i64 0] [(0, 1, (.tmp 367)), (1, 1, (ic 110))]),
 od 369 (.build [.int .i64 0, .int .i64 0, .int .i64 0, .str [], .str [], .int .i64 0, .int .i64 0] [(0, 1, (.tmp 364)), (1, 2, (.tmp 368)), (3, 1, (.const (.str [116, 114, 101, 101]))), (5, 1, (ic 1)), (6, 1, (ic 1))]), od 370 (.buildSlice 5936 7 (.agg [.int .i64 0, .int .i64 0, .int .i64 0, .str [], .str [], .int .i64 0, .int .i64 0]) 1 [(0, (.tmp 369))]), od 371 (.append 101 7 1927910799188 (.tmp 362) (.tmp 370)), od 372 (.fieldAddr 3 (.tmp 5)),
 ow (.store false 1 (.tmp 372) (.tmp 371))]))
  (.region [od 359 (.move (.tmp 9)), od 360 (.bin .add (.tmp 359) (ic 1)), od 9 (.move (.tmp 360))])))
def f79_b : ACode :=
  (.seq (.region [od 2 (.new 48 4 (.tmp 0)), od 3 (.new 64 3 (.tmp 1)), od 4 (.new 80 4 (.const (.agg [.lit 4 [], .lit 5 [], .lit 8 [], .lit 7 []])))])
  (.seq (.region [od 10 (.load true 4 (.tmp 2)), od 11 (.call 192 true (fc 92) [(.tmp 10)]), od 5 (.new 96 4 (.const (.agg [.lit 4 [], .lit 5 [], .nils, .nils]))), ow (.store true 4 (.tmp 5) (.tmp 11))])
  (.seq (.region [od 12 (.indexArr 3 1 (.tmp 3) (ic 1)), od 13 (.load false 1 (.tmp 12)), od 14 (.call 240 false (fc 93) [(.tmp 13), (ic 60)]), od 6 (.move (.tmp 14))])
  (.seq (.region [od 15 (.indexArr 3 1 (.tmp 3) (ic 2)), od 16 (.load false 1 (.tmp 15)), od 17 (.call 288 false (fc 93) [(.tmp 16), (ic 64)]), od 7 (.move (.tmp 17))])
  (.seq (.seq (.region [od 18 (.indexArr 3 1 (.tmp 3) (ic 0)), od 19 (.load false 1 (.tmp 18)), od 20 (.call 336 false (fc 93) [(.tmp 19), (ic 17)])])
  (.block 0 (.seq (.region [od 22 (.bin .eql (.tmp 20) (ic 0)), od 21 (.move (.tmp 22))])
  (.cond (.tmp 21)
  (.region [od 24 (.fieldAddr 0 (.tmp 5)), od 25 (.load false 1 (.tmp 24)), od 26 (.fieldAddr 1 (.tmp 5)), od 27 (.load false 1 (.tmp 26)),
 od 28 (.indexArr 3 1 (.tmp 3) (ic 1)), od 29 (.load false 1 (.tmp 28)), od 30 (.indexArr 3 1 (.tmp 3) (ic 2)), od 31 (.load false 1 (.tmp 30)),
 od 32 (.indexArr 3 1 (.tmp 3) (ic 1)), od 33 (.load false 1 (.tmp 32)), od 34 (.indexArr 3 1 (.tmp 3) (ic 2)), od 35 (.load false 1 (.tmp 34)),
 od 36 (.bin .add (.tmp 33) (.tmp 35)), od 37 (.build [.int .i64 0, .int .i64 0, .int .i64 0] [(0, 1, (.tmp 29)), (1, 1, (.tmp 31)), (2, 1, (.tmp 36))]), od 38 (.call 624 true (fc 94) [(.tmp 25), (.tmp 27), (.tmp 37)]), od 23 (.move (.tmp 38)),
 od 39 (.extract (.tmp 23) 0), od 40 (.extract (.tmp 23) 1), od 41 (.fieldAddr 0 (.tmp 5)), ow (.store false 1 (.tmp 41) (.tmp 39)),
 od 42 (.fieldAddr 1 (.tmp 5)), ow (.store false 1 (.tmp 42) (.tmp 40))])
  (.seq (.region [od 44 (.bin .eql (.tmp 20) (ic 1)), od 43 (.move (.tmp 44))])
  (.cond (.tmp 43)
  (.seq (.region [od 45 (.fieldAddr 1 (.tmp 5)), od 46 (.load false 1 (.tmp 45)), od 47 (.len (.tmp 46)), od 48 (.bin .gtr (.tmp 47) (ic 0))])
  (.cond (.tmp 48)
  (.drawn [od 49 (.fieldAddr 1 (.tmp 5)), op 50 (.load false 1 (.tmp 49)) [0], od 51 (.move (.tmp 7)), od 52 (.fieldAddr 1 (.tmp 5)),
 op 53 (.load false 1 (.tmp 52)) [3], op 54 (.len (.tmp 53)) [4], op 55 (.bin .rem (.tmp 51) (.tmp 54)) [2, 5], od 56 (.buildSlice 912 1 (.str []) 5 [(0, (.const (.str []))), (1, (.const (.str [70, 105, 101, 108, 100]))), (2, (.const (.str [119, 111, 111, 100]))), (3, (.const (.str [97, 98, 99, 100, 101, 102, 103, 104, 105, 106, 107, 108, 109]))), (4, (.const (.str [108, 97, 107, 101])))]),
 od 57 (.move (.tmp 6)), op 58 (.bin .rem (.tmp 57) (ic 5)) [8], op 59 (.indexAddr 1 (.tmp 56) (.tmp 58)) [7, 9], op 60 (.load false 1 (.tmp 59)) [10],
 op 61 (.indexAddr 5 (.tmp 50) (.tmp 55)) ([1, 6] ++ rg 12), op 62 (.fieldAddr 1 (.tmp 61)) ([12] ++ rg 12), ⟨none, .store false 1 (.tmp 62) (.tmp 60), none, ([13, 11] ++ rg 12)⟩])
  .skip))
  (.seq (.region [od 64 (.bin .eql (.tmp 20) (ic 2)), od 63 (.move (.tmp 64))])
  (.cond (.tmp 63)
  (.seq (.region [od 65 (.fieldAddr 1 (.tmp 5)), od 66 (.load false 1 (.tmp 65)), od 67 (.len (.tmp 66)), od 68 (.bin .gtr (.tmp 67) (ic 0))])
  (.cond (.tmp 68)
  (.drawn [od 69 (.fieldAddr 1 (.tmp 5)), op 70 (.load false 1 (.tmp 69)) [0], od 71 (.move (.tmp 7)), od 72 (.fieldAddr 1 (.tmp 5)),
 op 73 (.load false 1 (.tmp 72)) [3], op 74 (.len (.tmp 73)) [4], op 75 (.bin .rem (.tmp 71) (.tmp 74)) [2, 5], od 76 (.move (.tmp 6)),
 op 77 (.call 1248 false (fc 95) [(.tmp 76)]) [7], op 78 (.indexAddr 5 (.tmp 70) (.tmp 75)) ([1, 6] ++ rg 9), op 79 (.fieldAddr 2 (.tmp 78)) ([9] ++ rg 9), ⟨none, .store false 1 (.tmp 79) (.tmp 77), none, ([10, 8, 8] ++ rg 9)⟩])
  .skip))
  (.seq (.region [od 81 (.bin .eql (.tmp 20) (ic 3)), od 80 (.move (.tmp 81))])
  (.cond (.tmp 80)
  (.seq (.region [od 82 (.fieldAddr 1 (.tmp 5)), od 83 (.load false 1 (.tmp 82)), od 84 (.len (.tmp 83)), od 85 (.bin .gtr (.tmp 84) (ic 0))])
  (.cond (.tmp 85)
  (.drawn [od 86 (.fieldAddr 1 (.tmp 5)), op 87 (.load false 1 (.tmp 86)) [0], od 88 (.move (.tmp 7)), od 89 (.fieldAddr 1 (.tmp 5)),
 op 90 (.load false 1 (.tmp 89)) [3], op 91 (.len (.tmp 90)) [4], op 92 (.bin .rem (.tmp 88) (.tmp 91)) [2, 5], od 93 (.move (.tmp 6)),
 op 94 (.bin .mul (.tmp 93) (ic 6)) [7], op 95 (.indexAddr 5 (.tmp 87) (.tmp 92)) ([1, 6] ++ rg 9), op 96 (.fieldAddr 3 (.tmp 95)) ([9] ++ rg 9), ⟨none, .store false 1 (.tmp 96) (.tmp 94), none, ([10, 8] ++ rg 9)⟩])
  .skip))
  (.seq (.region [od 98 (.bin .eql (.tmp 20) (ic 4)), od 97 (.move (.tmp 98))])
  (.cond (.tmp 97)
  (.seq (.region [od 99 (.fieldAddr 1 (.tmp 5)), od 100 (.load false 1 (.tmp 99)), od 101 (.len (.tmp 100)), od 102 (.bin .gtr (.tmp 101) (ic 0))])
  (.cond (.tmp 102)
  (.drawn [od 103 (.fieldAddr 1 (.tmp 5)), op 104 (.load false 1 (.tmp 103)) [0], od 105 (.move (.tmp 7)), od 106 (.fieldAddr 1 (.tmp 5)),
 op 107 (.load false 1 (.tmp 106)) [3], op 108 (.len (.tmp 107)) [4], op 109 (.bin .rem (.tmp 105) (.tmp 108)) [2, 5], od 110 (.move (.tmp 6)),
 op 111 (.bin .rem (.tmp 110) (ic 18)) [7], op 112 (.indexAddr 5 (.tmp 104) (.tmp 109)) ([1, 6] ++ rg 9), op 113 (.fieldAddr 4 (.tmp 112)) ([9] ++ rg 9), ⟨none, .store false 1 (.tmp 113) (.tmp 111), none, ([10, 8] ++ rg 9)⟩])
  .skip))
  (.seq (.region [od 115 (.bin .eql (.tmp 20) (ic 5)), od 114 (.move (.tmp 115))])
  (.cond (.tmp 114)
  (.seq (.region [od 116 (.fieldAddr 2 (.tmp 5)), od 117 (.load false 1 (.tmp 116)), od 118 (.len (.tmp 117)), od 119 (.bin .gtr (.tmp 118) (ic 0))])
  (.cond (.tmp 119)
  (.drawn [od 120 (.fieldAddr 2 (.tmp 5)), op 121 (.load false 1 (.tmp 120)) [0], od 122 (.move (.tmp 7)), od 123 (.fieldAddr 2 (.tmp 5)),
 op 124 (.load false 1 (.tmp 123)) [3], op 125 (.len (.tmp 124)) [4], op 126 (.bin .rem (.tmp 122) (.tmp 125)) [2, 5], od 127 (.move (.tmp 6)),
 op 128 (.indexAddr 8 (.tmp 121) (.tmp 126)) ([1, 6] ++ rg 8), op 129 (.fieldAddr 0 (.tmp 128)) ([8] ++ rg 8), ⟨none, .store false 1 (.tmp 129) (.tmp 127), none, ([9, 7] ++ rg 8)⟩])
  .skip))
  (.seq (.region [od 131 (.bin .eql (.tmp 20) (ic 6)), od 130 (.move (.tmp 131))])
  (.cond (.tmp 130)
  (.seq (.region [od 132 (.fieldAddr 2 (.tmp 5)), od 133 (.load false 1 (.tmp 132)), od 134 (.len (.tmp 133)), od 135 (.bin .gtr (.tmp 134) (ic 0))])
  (.cond (.tmp 135)
  (.drawn [od 136 (.fieldAddr 2 (.tmp 5)), op 137 (.load false 1 (.tmp 136)) [0], od 138 (.move (.tmp 7)), od 139 (.fieldAddr 2 (.tmp 5)),
 op 140 (.load false 1 (.tmp 139)) [3], op 141 (.len (.tmp 140)) [4], op 142 (.bin .rem (.tmp 138) (.tmp 141)) [2, 5], od 143 (.move (.tmp 6)),
 op 144 (.bin .rem (.tmp 143) (ic 18)) [7], op 145 (.indexAddr 8 (.tmp 137) (.tmp 142)) ([1, 6] ++ rg 9), op 146 (.fieldAddr 7 (.tmp 145)) ([9] ++ rg 9), ⟨none, .store false 1 (.tmp 146) (.tmp 144), none, ([10, 8] ++ rg 9)⟩])
  .skip))
  (.seq (.region [od 148 (.bin .eql (.tmp 20) (ic 7)), od 147 (.move (.tmp 148))])
  (.cond (.tmp 147)
  (.seq (.region [od 149 (.fieldAddr 2 (.tmp 5)), od 150 (.load false 1 (.tmp 149)), od 151 (.len (.tmp 150)), od 152 (.bin .gtr (.tmp 151) (ic 0))])
  (.cond (.tmp 152)
  (.drawn [od 153 (.fieldAddr 2 (.tmp 5)), op 154 (.load false 1 (.tmp 153)) [0], od 155 (.move (.tmp 7)), od 156 (.fieldAddr 2 (.tmp 5)),
 op 157 (.load false 1 (.tmp 156)) [3], op 158 (.len (.tmp 157)) [4], op 159 (.bin .rem (.tmp 155) (.tmp 158)) [2, 5], od 160 (.move (.tmp 6)),
 op 161 (.bin .rem (.tmp 160) (ic 7)) [7], op 162 (.bin .sub (.tmp 161) (ic 3)) [8], op 163 (.indexAddr 8 (.tmp 154) (.tmp 159)) ([1, 6] ++ rg 10), op 164 (.fieldAddr 2 (.tmp 163)) ([10] ++ rg 10),
 ⟨none, .store false 1 (.tmp 164) (.tmp 162), none, ([11, 9] ++ rg 10)⟩])
  .skip))
  (.seq (.region [od 166 (.bin .eql (.tmp 20) (ic 8)), od 165 (.move (.tmp 166))])
  (.cond (.tmp 165)
  (.seq (.region [od 167 (.fieldAddr 2 (.tmp 5)), od 168 (.load false 1 (.tmp 167)), od 169 (.len (.tmp 168)), od 170 (.bin .gtr (.tmp 169) (ic 0))])
  (.cond (.tmp 170)
  (.drawn [od 171 (.fieldAddr 2 (.tmp 5)), op 172 (.load false 1 (.tmp 171)) [0], od 173 (.move (.tmp 7)), od 174 (.fieldAddr 2 (.tmp 5)),
 op 175 (.load false 1 (.tmp 174)) [3], op 176 (.len (.tmp 175)) [4], op 177 (.bin .rem (.tmp 173) (.tmp 176)) [2, 5], op 178 (.slice 8 (.tmp 172) none (some (.tmp 177)) none) [1, 6],
 od 179 (.fieldAddr 2 (.tmp 5)), op 180 (.load false 1 (.tmp 179)) [8], od 181 (.move (.tmp 7)), od 182 (.fieldAddr 2 (.tmp 5)),
 op 183 (.load false 1 (.tmp 182)) [11], op 184 (.len (.tmp 183)) [12], op 185 (.bin .rem (.tmp 181) (.tmp 184)) [10, 13], op 186 (.bin .add (.tmp 185) (ic 1)) [14],
 op 187 (.slice 8 (.tmp 180) (some (.tmp 186)) none none) [9, 15], op 188 (.append 3024 8 1450901941607 (.tmp 178) (.tmp 187)) [7, 16], op 189 (.fieldAddr 2 (.tmp 5)) (rg 18), ⟨none, .store false 1 (.tmp 189) (.tmp 188), none, ([18, 17, 17] ++ rg 18)⟩])
  .skip))
  (.seq (.region [od 191 (.bin .eql (.tmp 20) (ic 9)), od 190 (.move (.tmp 191))])
  (.cond (.tmp 190)
  (.drawn [od 192 (.fieldAddr 2 (.tmp 5)), op 193 (.load false 1 (.tmp 192)) [0], od 194 (.move (.tmp 6)), op 195 (.bin .add (ic 30) (.tmp 194)) [2],
 od 196 (.move (.tmp 6)), op 197 (.bin .mul (ic 10) (.tmp 196)) [4], op 198 (.build [.int .i64 0, .int .i64 0] [(0, 1, (.tmp 197)), (1, 1, (ic 20))]) [5], od 199 (.build [.int .i64 0, .int .i64 0] [(0, 1, (ic 55)), (1, 1, (ic 65))]),
 op 200 (.buildSlice 3216 2 (.agg [.int .i64 0, .int .i64 0]) 2 [(0, (.tmp 198)), (1, (.tmp 199))]) [6, 7], od 201 (.move (.tmp 7)), op 202 (.bin .rem (.tmp 201) (ic 2)) [9], od 203 (.move (.tmp 7)),
 op 204 (.call 3280 false (fc 95) [(.tmp 203)]) [11], od 205 (.move (.tmp 6)), op 206 (.bin .add (ic 1) (.tmp 205)) [13], od 207 (.move (.tmp 7)),
 op 208 (.bin .rem (.tmp 207) (ic 3)) [15], op 209 (.bin .add (ic 1) (.tmp 208)) [16], op 210 (.build [.int .i64 0, .lit 2 [], .int .i64 0, .str [], .str [], .bool false, .int .i64 0, .int .i64 0] [(0, 1, (.tmp 195)), (1, 1, (.tmp 200)), (2, 1, (.tmp 202)), (3, 1, (.const (.str [112, 97, 116, 104]))), (4, 1, (.tmp 204)), (6, 1, (.tmp 206)), (7, 1, (.tmp 209))]) [3, 8, 10, 12, 14, 17], op 211 (.buildSlice 3392 8 (.agg [.int .i64 0, .nils, .int .i64 0, .str [], .str [], .bool false, .int .i64 0, .int .i64 0]) 1 [(0, (.tmp 210))]) [18],
 op 212 (.append 100 8 1450901941607 (.tmp 193) (.tmp 211)) [1, 19, 12], op 213 (.fieldAddr 2 (.tmp 5)) (rg 21), ⟨none, .store false 1 (.tmp 213) (.tmp 212), none, ([21, 20, 20] ++ rg 21)⟩])
  (.seq (.region [od 215 (.bin .eql (.tmp 20) (ic 10)), od 214 (.move (.tmp 215))])
  (.cond (.tmp 214)
  (.seq (.region [od 216 (.fieldAddr 3 (.tmp 5)), od 217 (.load false 1 (.tmp 216)), od 218 (.len (.tmp 217)), od 219 (.bin .gtr (.tmp 218) (ic 0))])
  (.cond (.tmp 219)
  (.seq (.drawn [od 220 (.fieldAddr 3 (.tmp 5)), op 221 (.load false 1 (.tmp 220)) [0], od 222 (.move (.tmp 7)), od 223 (.fieldAddr 3 (.tmp 5)),
 op 224 (.load false 1 (.tmp 223)) [3], op 225 (.len (.tmp 224)) [4], op 226 (.bin .rem (.tmp 222) (.tmp 225)) [2, 5], op 227 (.indexAddr 7 (.tmp 221) (.tmp 226)) [1, 6],
 op 8 (.move (.tmp 227)) ([7] ++ rg 8)])
  (.drawn [od 228 (.move (.tmp 8)), od 229 (.move (.tmp 8)), op 230 (.nilCheck (.tmp 229)) [1], op 231 (.fieldAddr 1 (.tmp 230)) [2],
 op 232 (.fieldAddr 0 (.tmp 231)) [3], op 233 (.load false 1 (.tmp 232)) [4], od 234 (.move (.tmp 6)), op 235 (.bin .add (.tmp 233) (.tmp 234)) [5, 6],
 op 236 (.bin .sub (.tmp 235) (ic 30)) [7], od 237 (.move (.tmp 8)), op 238 (.nilCheck (.tmp 237)) [9], op 239 (.fieldAddr 1 (.tmp 238)) [10],
 op 240 (.fieldAddr 1 (.tmp 239)) [11], op 241 (.load false 1 (.tmp 240)) [12], od 242 (.move (.tmp 7)), op 243 (.bin .add (.tmp 241) (.tmp 242)) [13, 14],
 op 244 (.bin .sub (.tmp 243) (ic 30)) [15], op 245 (.build [.int .i64 0, .int .i64 0] [(0, 1, (.tmp 236)), (1, 1, (.tmp 244))]) [8, 16], op 246 (.nilCheck (.tmp 228)) ([0] ++ rg 18), op 247 (.fieldAddr 1 (.tmp 246)) ([18] ++ rg 18),
 ⟨none, .store true 2 (.tmp 247) (.tmp 245), none, ([19, 17] ++ rg 18)⟩]))
  .skip))
  (.seq (.region [od 249 (.bin .eql (.tmp 20) (ic 11)), od 248 (.move (.tmp 249))])
  (.cond (.tmp 248)
  (.seq (.region [od 250 (.fieldAddr 3 (.tmp 5)), od 251 (.load false 1 (.tmp 250)), od 252 (.len (.tmp 251)), od 253 (.bin .gtr (.tmp 252) (ic 0))])
  (.cond (.tmp 253)
  (.drawn [od 254 (.fieldAddr 3 (.tmp 5)), op 255 (.load false 1 (.tmp 254)) [0], od 256 (.move (.tmp 7)), od 257 (.fieldAddr 3 (.tmp 5)),
 op 258 (.load false 1 (.tmp 257)) [3], op 259 (.len (.tmp 258)) [4], op 260 (.bin .rem (.tmp 256) (.tmp 259)) [2, 5], od 261 (.move (.tmp 6)),
 op 262 (.bin .rem (.tmp 261) (ic 18)) [7], op 263 (.indexAddr 7 (.tmp 255) (.tmp 260)) ([1, 6] ++ rg 9), op 264 (.fieldAddr 6 (.tmp 263)) ([9] ++ rg 9), ⟨none, .store false 1 (.tmp 264) (.tmp 262), none, ([10, 8] ++ rg 9)⟩])
  .skip))
  (.seq (.region [od 266 (.bin .eql (.tmp 20) (ic 12)), od 265 (.move (.tmp 266))])
  (.cond (.tmp 265)
  (.seq (.region [od 267 (.fieldAddr 3 (.tmp 5)), od 268 (.load false 1 (.tmp 267)), od 269 (.len (.tmp 268)), od 270 (.bin .gtr (.tmp 269) (ic 0))])
  (.cond (.tmp 270)
  (.drawn [od 271 (.fieldAddr 3 (.tmp 5)), op 272 (.load false 1 (.tmp 271)) [0], od 273 (.move (.tmp 7)), od 274 (.fieldAddr 3 (.tmp 5)),
 op 275 (.load false 1 (.tmp 274)) [3], op 276 (.len (.tmp 275)) [4], op 277 (.bin .rem (.tmp 273) (.tmp 276)) [2, 5], od 278 (.move (.tmp 6)),
 op 279 (.call 4480 false (fc 95) [(.tmp 278)]) [7], op 280 (.indexAddr 7 (.tmp 272) (.tmp 277)) ([1, 6] ++ rg 9), op 281 (.fieldAddr 4 (.tmp 280)) ([9] ++ rg 9), ⟨none, .store false 1 (.tmp 281) (.tmp 279), none, ([10, 8, 8] ++ rg 9)⟩])
  .skip))
  (.seq (.region [od 283 (.bin .eql (.tmp 20) (ic 13)), od 282 (.move (.tmp 283))])
  (.cond (.tmp 282)
  (.seq (.region [od 284 (.fieldAddr 3 (.tmp 5)), od 285 (.load false 1 (.tmp 284)), od 286 (.len (.tmp 285)), od 287 (.bin .gtr (.tmp 286) (ic 0))])
  (.cond (.tmp 287)
  (.drawn [od 288 (.fieldAddr 3 (.tmp 5)), op 289 (.load false 1 (.tmp 288)) [0], od 290 (.move (.tmp 7)), od 291 (.fieldAddr 3 (.tmp 5)),
 op 292 (.load false 1 (.tmp 291)) [3], op 293 (.len (.tmp 292)) [4], op 294 (.bin .rem (.tmp 290) (.tmp 293)) [2, 5], op 295 (.slice 7 (.tmp 289) none (some (.tmp 294)) none) [1, 6],
 od 296 (.fieldAddr 3 (.tmp 5)), op 297 (.load false 1 (.tmp 296)) [8], od 298 (.move (.tmp 7)), od 299 (.fieldAddr 3 (.tmp 5)),
 op 300 (.load false 1 (.tmp 299)) [11], op 301 (.len (.tmp 300)) [12], op 302 (.bin .rem (.tmp 298) (.tmp 301)) [10, 13], op 303 (.bin .add (.tmp 302) (ic 1)) [14],
 op 304 (.slice 7 (.tmp 297) (some (.tmp 303)) none none) [9, 15], op 305 (.append 4896 7 1927910799188 (.tmp 295) (.tmp 304)) [7, 16], op 306 (.fieldAddr 3 (.tmp 5)) (rg 18), ⟨none, .store false 1 (.tmp 306) (.tmp 305), none, ([18, 17, 17] ++ rg 18)⟩])
  .skip))
  (.seq (.region [od 308 (.bin .eql (.tmp 20) (ic 14)), od 307 (.move (.tmp 308))])
  (.cond (.tmp 307)
  (.drawn [od 309 (.fieldAddr 3 (.tmp 5)), op 310 (.load false 1 (.tmp 309)) [0], od 311 (.buildSlice 4992 1 (.int .i64 0) 4 [(0, (ic 0)), (1, (ic 1073741824)), (2, (ic 1073741825)), (3, (ic 70))]), od 312 (.move (.tmp 6)),
 op 313 (.bin .rem (.tmp 312) (ic 4)) [3], op 314 (.indexAddr 1 (.tmp 311) (.tmp 313)) [2, 4], op 315 (.load false 1 (.tmp 314)) [5], od 316 (.move (.tmp 6)),
 op 317 (.bin .quo (.tmp 316) (ic 4)) [7], op 318 (.bin .add (.tmp 315) (.tmp 317)) [6, 8], od 319 (.move (.tmp 6)), op 320 (.bin .mul (ic 5) (.tmp 319)) [10],
 op 321 (.bin .add (ic 50) (.tmp 320)) [11], od 322 (.move (.tmp 7)), op 323 (.bin .mul (ic 2) (.tmp 322)) [13], op 324 (.bin .add (ic 50) (.tmp 323)) [14],
 op 325 (.build [.int .i64 0, .int .i64 0] [(0, 1, (.tmp 321)), (1, 1, (.tmp 324))]) [12, 15], od 326 (.move (.tmp 7)), op 327 (.call 5248 false (fc 95) [(.tmp 326)]) [17], od 328 (.move (.tmp 6)),
 op 329 (.bin .rem (.tmp 328) (ic 2)) [19], op 330 (.bin .add (ic 1) (.tmp 329)) [20], op 331 (.build [.int .i64 0, .int .i64 0, .int .i64 0, .str [], .str [], .int .i64 0, .int .i64 0] [(0, 1, (.tmp 318)), (1, 2, (.tmp 325)), (3, 1, (.const (.str [115, 104, 111, 112]))), (4, 1, (.tmp 327)), (5, 1, (ic 5)), (6, 1, (.tmp 330))]) [9, 16, 18, 21], op 332 (.buildSlice 5328 7 (.agg [.int .i64 0, .int .i64 0, .int .i64 0, .str [], .str [], .int .i64 0, .int .i64 0]) 1 [(0, (.tmp 331))]) [22],
 op 333 (.append 101 7 1927910799188 (.tmp 310) (.tmp 332)) [1, 23, 18], op 334 (.fieldAddr 3 (.tmp 5)) (rg 25), ⟨none, .store false 1 (.tmp 334) (.tmp 333), none, ([25, 24, 24] ++ rg 25)⟩])
  (.seq (.region [od 336 (.bin .eql (.tmp 20) (ic 15)), od 335 (.move (.tmp 336))])
  (.cond (.tmp 335)
  (.seq (.region [od 337 (.fieldAddr 3 (.tmp 5)), od 338 (.load false 1 (.tmp 337)), od 339 (.len (.tmp 338)), od 340 (.bin .gtr (.tmp 339) (ic 0))])
  (.cond (.tmp 340)
  (.drawn [od 341 (.fieldAddr 3 (.tmp 5)), op 342 (.load false 1 (.tmp 341)) [0], od 343 (.move (.tmp 7)), od 344 (.fieldAddr 3 (.tmp 5)),
 op 345 (.load false 1 (.tmp 344)) [3], op 346 (.len (.tmp 345)) [4], op 347 (.bin .rem (.tmp 343) (.tmp 346)) [2, 5], od 348 (.move (.tmp 6)),
 op 349 (.bin .mul (.tmp 348) (ic 5)) [7], op 350 (.indexAddr 7 (.tmp 342) (.tmp 347)) ([1, 6] ++ rg 9), op 351 (.fieldAddr 5 (.tmp 350)) ([9] ++ rg 9), ⟨none, .store false 1 (.tmp 351) (.tmp 349), none, ([10, 8] ++ rg 9)⟩])
  .skip))
  (.seq (.region [od 353 (.bin .eql (.tmp 20) (ic 16)), od 352 (.move (.tmp 353))])
  (.cond (.tmp 352)
  (.seq (.region [od 9 (.move (ic 0))])
  (.block 1 (.loop f79_l0)))
  .skip))))))))))))))))))))))))))))))))))))
  (.seq (.region [od 373 (.loadW [4, 5, 8, 7] true 4 (.tmp 5)), ow (.store true 4 (.tmp 4) (.tmp 373))])
  .ret))))))
def f79 : AFunc := ⟨2, 374, [], [.cell 4 true 4], f79_b⟩

/-! 13: hachure/hachurelaw15.example -/
def f13_b : ACode :=
  (.seq (.region [od 0 (.new 16 4 (.const (.agg [.lit 4 [], .lit 5 [], .lit 8 [], .lit 7 []])))])
  (.seq (.region [od 1 (.call 32 false (fc 14) [(ic 1), (.const (.str [116, 114, 101, 101])), (.const (.str [])), (ic 3), (ic 0), (ic 0)]), od 2 (.call 48 false (fc 14) [(ic 2), (.const (.str [116, 114, 101, 101])), (.const (.str [])), (ic 3), (ic 30), (ic 40)]), od 3 (.call 64 false (fc 14) [(ic 3), (.const (.str [116, 114, 101, 101])), (.const (.str [69, 108, 109])), (ic 2), (ic 6), (ic 8)]), od 4 (.call 80 false (fc 14) [(ic 4), (.const (.str [116, 114, 101, 101])), (.const (.str [79, 97, 107])), (ic 1), (ic 90), (ic 0)]),
 od 5 (.call 96 false (fc 14) [(ic 5), (.const (.str [119, 101, 108, 108])), (.const (.str [])), (ic 9), (ic 1), (ic 0)]), od 6 (.buildSlice 112 7 (.agg [.int .i64 0, .int .i64 0, .int .i64 0, .str [], .str [], .int .i64 0, .int .i64 0]) 5 [(0, (.tmp 1)), (1, (.tmp 2)), (2, (.tmp 3)), (3, (.tmp 4)), (4, (.tmp 5))]), od 7 (.build [.lit 4 [], .lit 5 [], .lit 8 [], .lit 7 []] [(3, 1, (.tmp 6))]), ow (.store true 4 (.tmp 0) (.tmp 7))])
  .ret))
def f13 : AFunc := ⟨0, 8, [], [.cell 0 true 4], f13_b⟩

/-! 8: hachure/gather.Can -/
def f8_b : ACode :=
  (.seq (.region [od 3 (.new 64 4 (.tmp 0)), od 6 (.move (ic 0))])
  (.seq (.region [od 13 (.load true 4 (.tmp 3)), od 14 (.move (.tmp 1)), od 15 (.move (.tmp 2)), od 16 (.call 272 false (fc 15) [(.tmp 13), (.tmp 14), (.tmp 15)]),
 od 12 (.move (.tmp 16)), od 17 (.extract (.tmp 12) 0), od 18 (.extract (.tmp 12) 1), od 19 (.extract (.tmp 12) 2),
 od 7 (.move (.tmp 17)), od 8 (.move (.tmp 18)), od 9 (.move (.tmp 19))])
  (.seq (.seq (.region [od 20 (.move (.tmp 9)), od 21 (.un .not (.tmp 20))])
  (.cond (.tmp 21)
  (.seq (.region [od 6 (.move (ic 5))])
  .ret)
  .skip))
  (.seq (.drawn [od 22 (.fieldAddr 3 (.tmp 3)), op 23 (.load false 1 (.tmp 22)) [0], od 24 (.move (.tmp 7)), op 25 (.indexAddr 7 (.tmp 23) (.tmp 24)) [1, 2],
 op 26 (.load true 7 (.tmp 25)) [3], od 27 (.fieldAddr 3 (.tmp 3)), op 28 (.load false 1 (.tmp 27)) [5], od 29 (.move (.tmp 8)),
 op 30 (.indexAddr 7 (.tmp 28) (.tmp 29)) [6, 7], op 31 (.load true 7 (.tmp 30)) [8], od 10 (.new 176 7 (.const (.agg [.int .i64 0, .int .i64 0, .int .i64 0, .str [], .str [], .int .i64 0, .int .i64 0]))), od 11 (.new 192 7 (.const (.agg [.int .i64 0, .int .i64 0, .int .i64 0, .str [], .str [], .int .i64 0, .int .i64 0]))),
 ⟨none, .store true 7 (.tmp 10) (.tmp 26), none, [10, 4, 0, 1, 2, 3, 4, 10, 11]⟩, ⟨none, .store true 7 (.tmp 11) (.tmp 31), none, ([11, 9, 12] ++ rg 13)⟩])
  (.seq (.block 0 (.seq (.seq (.region [od 33 (.move (.tmp 1)), od 34 (.move (.tmp 2)), od 35 (.bin .eql (.tmp 33) (.tmp 34)), od 32 (.move (.tmp 35))])
  (.cond (.tmp 32)
  .skip
  (.seq (.region [od 36 (.fieldAddr 3 (.tmp 10)), od 37 (.load false 1 (.tmp 36)), od 38 (.fieldAddr 3 (.tmp 11)), od 39 (.load false 1 (.tmp 38)),
 od 40 (.bin .neq (.tmp 37) (.tmp 39)), od 32 (.move (.tmp 40))])
  (.cond (.tmp 32)
  .skip
  (.seq (.region [od 41 (.fieldAddr 5 (.tmp 10)), od 42 (.load false 1 (.tmp 41)), od 43 (.fieldAddr 5 (.tmp 11)), od 44 (.load false 1 (.tmp 43)),
 od 45 (.bin .gtr (.tmp 42) (.tmp 44)), od 32 (.move (.tmp 45))])
  (.cond (.tmp 32)
  .skip
  (.region [od 46 (.fieldAddr 5 (.tmp 10)), od 47 (.load false 1 (.tmp 46)), od 48 (.fieldAddr 5 (.tmp 11)), od 49 (.load false 1 (.tmp 48)),
 od 50 (.bin .eql (.tmp 47) (.tmp 49)), od 51 (.move (.tmp 50)), ⟨some 52, .fieldAddr 0 (.tmp 10), some (51, true), []⟩, ⟨some 53, .load false 1 (.tmp 52), some (51, true), []⟩,
 ⟨some 54, .fieldAddr 0 (.tmp 11), some (51, true), []⟩, ⟨some 55, .load false 1 (.tmp 54), some (51, true), []⟩, ⟨some 56, .bin .lss (.tmp 53) (.tmp 55), some (51, true), []⟩, od 57 (.pick (.tmp 51) (.tmp 56) (.const (.bool false))),
 od 32 (.move (.tmp 57))])))))))
  (.cond (.tmp 32)
  (.seq (.region [od 6 (.move (ic 1))])
  .ret)
  (.seq (.region [od 59 (.fieldAddr 6 (.tmp 10)), od 60 (.load false 1 (.tmp 59)), od 61 (.fieldAddr 6 (.tmp 11)), od 62 (.load false 1 (.tmp 61)),
 od 63 (.bin .neq (.tmp 60) (.tmp 62)), od 58 (.move (.tmp 63))])
  (.cond (.tmp 58)
  (.seq (.region [od 6 (.move (ic 25))])
  .ret)
  (.seq (.region [od 65 (.fieldAddr 4 (.tmp 10)), od 66 (.load false 1 (.tmp 65)), od 67 (.bin .neq (.tmp 66) (.const (.str []))), od 68 (.move (.tmp 67)),
 ⟨some 69, .fieldAddr 4 (.tmp 11), some (68, true), []⟩, ⟨some 70, .load false 1 (.tmp 69), some (68, true), []⟩, ⟨some 71, .bin .neq (.tmp 70) (.const (.str [])), some (68, true), []⟩, od 72 (.pick (.tmp 68) (.tmp 71) (.const (.bool false))),
 od 73 (.move (.tmp 72)), ⟨some 74, .fieldAddr 4 (.tmp 10), some (73, true), []⟩, ⟨some 75, .load false 1 (.tmp 74), some (73, true), []⟩, ⟨some 76, .fieldAddr 4 (.tmp 11), some (73, true), []⟩,
 ⟨some 77, .load false 1 (.tmp 76), some (73, true), []⟩, ⟨some 78, .bin .neq (.tmp 75) (.tmp 77), some (73, true), []⟩, od 79 (.pick (.tmp 73) (.tmp 78) (.const (.bool false))), od 64 (.move (.tmp 79))])
  (.cond (.tmp 64)
  (.seq (.region [od 6 (.move (ic 24))])
  .ret)
  .skip)))))))
  (.seq (.region [od 6 (.move (ic 0))])
  .ret))))))
def f8 : AFunc := ⟨3, 80, [], [.tmp 6], f8_b⟩

/-! 12: hachure/gather.Cost -/
def f12_b : ACode :=
  (.seq (.region [od 3 (.new 64 4 (.tmp 0)), od 6 (.move (ic 0))])
  (.seq (.region [od 11 (.load true 4 (.tmp 3)), od 12 (.move (.tmp 1)), od 13 (.move (.tmp 2)), od 14 (.call 240 false (fc 15) [(.tmp 11), (.tmp 12), (.tmp 13)]),
 od 10 (.move (.tmp 14)), od 15 (.extract (.tmp 10) 0), od 16 (.extract (.tmp 10) 1), od 17 (.extract (.tmp 10) 2),
 od 7 (.move (.tmp 15)), od 8 (.move (.tmp 16)), od 9 (.move (.tmp 17))])
  (.seq (.seq (.region [od 18 (.move (.tmp 9)), od 19 (.un .not (.tmp 18))])
  (.cond (.tmp 19)
  (.seq (.region [od 6 (.move (ic 0))])
  .ret)
  .skip))
  (.seq (.drawn [od 20 (.fieldAddr 3 (.tmp 3)), op 21 (.load false 1 (.tmp 20)) [0], od 22 (.move (.tmp 7)), op 23 (.indexAddr 7 (.tmp 21) (.tmp 22)) [1, 2],
 op 24 (.fieldAddr 1 (.tmp 23)) [3], op 25 (.load true 2 (.tmp 24)) [4], od 26 (.fieldAddr 3 (.tmp 3)), op 27 (.load false 1 (.tmp 26)) [6],
 od 28 (.move (.tmp 8)), op 29 (.indexAddr 7 (.tmp 27) (.tmp 28)) [7, 8], op 30 (.fieldAddr 1 (.tmp 29)) [9], op 31 (.load true 2 (.tmp 30)) [10],
 op 32 (.call 528 false (fc 24) [(.tmp 25), (.tmp 31)]) [5, 11], op 33 (.call 544 false (fc 27) [(.tmp 32)]) [12, 12], op 34 (.bin .quo (.tmp 33) (ic 4)) [13], op 6 (.move (.tmp 34)) ([14, 13] ++ rg 15)])
  .ret))))
def f12 : AFunc := ⟨3, 35, [], [.tmp 6], f12_b⟩

/-! 7: hachure/gather.Apply -/
def f7_b : ACode :=
  (.seq (.region [od 3 (.new 64 4 (.tmp 0)), od 6 (.new 112 4 (.const (.agg [.lit 4 [], .lit 5 [], .lit 8 [], .lit 7 []]))), od 7 (.move (ic 0))])
  (.seq (.seq (.region [od 14 (.load true 4 (.tmp 3)), od 15 (.move (.tmp 1)), od 16 (.move (.tmp 2)), od 17 (.call 288 false (fc 8) [(.tmp 14), (.tmp 15), (.tmp 16)]),
 od 8 (.move (.tmp 17))])
  (.seq (.region [od 18 (.move (.tmp 8)), od 19 (.bin .neq (.tmp 18) (ic 0))])
  (.cond (.tmp 19)
  (.seq (.region [od 20 (.build [.lit 4 [], .lit 5 [], .lit 8 [], .lit 7 []] []), od 21 (.move (.tmp 8)), ow (.store true 4 (.tmp 6) (.tmp 20)), od 7 (.move (.tmp 21))])
  .ret)
  .skip)))
  (.seq (.region [od 23 (.load true 4 (.tmp 3)), od 24 (.move (.tmp 1)), od 25 (.move (.tmp 2)), od 26 (.call 432 false (fc 15) [(.tmp 23), (.tmp 24), (.tmp 25)]),
 od 22 (.move (.tmp 26)), od 27 (.extract (.tmp 22) 0), od 28 (.extract (.tmp 22) 1), od 29 (.extract (.tmp 22) 2),
 od 9 (.move (.tmp 27)), od 10 (.move (.tmp 28)), od 11 (.move (.tmp 29))])
  (.seq (.region [od 30 (.load true 4 (.tmp 3)), od 31 (.call 512 true (fc 16) [(.tmp 30)]), od 12 (.new 208 4 (.const (.agg [.lit 4 [], .lit 5 [], .lit 8 [], .lit 7 []]))), ow (.store true 4 (.tmp 12) (.tmp 31))])
  (.seq (.region [od 32 (.fieldAddr 3 (.tmp 12)), od 33 (.load false 1 (.tmp 32)), od 34 (.move (.tmp 10)), od 35 (.indexAddr 7 (.tmp 33) (.tmp 34)),
 od 13 (.move (.tmp 35))])
  (.seq (.drawn [od 36 (.move (.tmp 13)), od 37 (.move (.tmp 13)), op 38 (.nilCheck (.tmp 37)) [1], op 39 (.fieldAddr 5 (.tmp 38)) [2],
 op 40 (.load false 1 (.tmp 39)) [3], od 41 (.fieldAddr 3 (.tmp 3)), op 42 (.load false 1 (.tmp 41)) [5], od 43 (.move (.tmp 9)),
 op 44 (.indexAddr 7 (.tmp 42) (.tmp 43)) [6, 7], op 45 (.fieldAddr 5 (.tmp 44)) [8], op 46 (.load false 1 (.tmp 45)) [9], op 47 (.bin .add (.tmp 40) (.tmp 46)) [4, 10],
 op 48 (.min [(.tmp 47), (ic 255)]) [11], op 49 (.nilCheck (.tmp 36)) ([0] ++ rg 13), op 50 (.fieldAddr 5 (.tmp 49)) ([13] ++ rg 13), ⟨none, .store false 1 (.tmp 50) (.tmp 48), none, ([14, 12] ++ rg 13)⟩])
  (.seq (.drawn [od 51 (.move (.tmp 13)), od 52 (.move (.tmp 13)), op 53 (.nilCheck (.tmp 52)) [1], op 54 (.fieldAddr 4 (.tmp 53)) [2],
 op 55 (.load false 1 (.tmp 54)) [3], od 56 (.fieldAddr 3 (.tmp 3)), op 57 (.load false 1 (.tmp 56)) [5], od 58 (.move (.tmp 9)),
 op 59 (.indexAddr 7 (.tmp 57) (.tmp 58)) [6, 7], op 60 (.fieldAddr 4 (.tmp 59)) [8], op 61 (.load false 1 (.tmp 60)) [9], op 62 (.buildSlice 1008 1 (.str []) 2 [(0, (.tmp 55)), (1, (.tmp 61))]) [4, 10],
 op 63 (.call 1024 false (fc 17) [(.tmp 62)]) [11], op 64 (.nilCheck (.tmp 51)) ([0] ++ rg 13), op 65 (.fieldAddr 4 (.tmp 64)) ([13] ++ rg 13), ⟨none, .store false 1 (.tmp 65) (.tmp 63), none, ([14, 12, 12] ++ rg 13)⟩])
  (.seq (.region [od 66 (.fieldAddr 3 (.tmp 12)), od 67 (.load false 1 (.tmp 66)), od 68 (.move (.tmp 9)), od 69 (.move (.tmp 9)),
 od 70 (.bin .add (.tmp 69) (ic 1)), od 71 (.call 1152 true (fc 18) [(.tmp 67), (.tmp 68), (.tmp 70)]), od 72 (.fieldAddr 3 (.tmp 12)), ow (.store false 1 (.tmp 72) (.tmp 71))])
  (.seq (.region [od 73 (.load true 4 (.tmp 12)), ow (.store true 4 (.tmp 6) (.tmp 73)), od 7 (.move (ic 0))])
  .ret)))))))))
def f7 : AFunc := ⟨3, 74, [], [.cell 6 true 4, .tmp 7], f7_b⟩

/-! 14: hachure/hachurelaw15.place -/
def f14_b : ACode :=
  (.seq (.region [od 12 (.new 208 7 (.const (.agg [.int .i64 0, .int .i64 0, .int .i64 0, .str [], .str [], .int .i64 0, .int .i64 0])))])
  (.seq (.region [od 13 (.move (.tmp 0)), od 14 (.move (.tmp 4)), od 15 (.move (.tmp 5)), od 16 (.build [.int .i64 0, .int .i64 0] [(0, 1, (.tmp 14)), (1, 1, (.tmp 15))]),
 od 17 (.move (.tmp 1)), od 18 (.move (.tmp 2)), od 19 (.move (.tmp 3)), od 20 (.build [.int .i64 0, .int .i64 0, .int .i64 0, .str [], .str [], .int .i64 0, .int .i64 0] [(0, 1, (.tmp 13)), (1, 2, (.tmp 16)), (3, 1, (.tmp 17)), (4, 1, (.tmp 18)), (5, 1, (.tmp 19)), (6, 1, (ic 1))]),
 ow (.store true 7 (.tmp 12) (.tmp 20))])
  .ret))
def f14 : AFunc := ⟨6, 21, [], [.cell 12 true 7], f14_b⟩

/-! 10: hachure/hachureref12.Same -/
abbrev f10_l0 : ACode :=
  (.seq (.seq (.region [od 11 (.move (.tmp 5)), od 12 (.move (.tmp 0)), od 13 (.len (.tmp 12)), od 14 (.bin .lss (.tmp 11) (.tmp 13))])
  (.cond (.tmp 14)
  .skip
  (.exit 0)))
  (.seq (.block 1 (.seq (.drawn [od 17 (.move (.tmp 0)), od 18 (.move (.tmp 5)), op 19 (.indexAddr 5 (.tmp 17) (.tmp 18)) [0, 1], op 20 (.load true 5 (.tmp 19)) [2],
 od 21 (.move (.tmp 1)), od 22 (.move (.tmp 5)), op 23 (.indexAddr 5 (.tmp 21) (.tmp 22)) [4, 5], op 24 (.load true 5 (.tmp 23)) [6],
 op 25 (.eqA true [1, 1, 1, 1, 1] (.tmp 20) (.tmp 24)) [3, 7]])
  (.cond (.tmp 25)
  (.seq (.region [od 4 (.move (.const (.bool false)))])
  .ret)
  .skip)))
  (.region [od 15 (.move (.tmp 5)), od 16 (.bin .add (.tmp 15) (ic 1)), od 5 (.move (.tmp 16))])))
def f10_b : ACode :=
  (.seq (.region [od 4 (.move (.const (.bool false)))])
  (.seq (.seq (.region [od 6 (.move (.tmp 0)), od 7 (.len (.tmp 6)), od 8 (.move (.tmp 1)), od 9 (.len (.tmp 8)),
 od 10 (.bin .neq (.tmp 7) (.tmp 9))])
  (.cond (.tmp 10)
  (.seq (.region [od 4 (.move (.const (.bool false)))])
  .ret)
  .skip))
  (.seq (.seq (.region [od 5 (.move (ic 0))])
  (.block 0 (.loop f10_l0)))
  (.seq (.region [od 4 (.move (.const (.bool true)))])
  .ret))))
def f10 : AFunc := ⟨2, 26, [], [.tmp 4], f10_b⟩

/-! 9: hachure/gather.All -/
abbrev f9_l0 : ACode :=
  (.seq (.region [od 37 (.bin .lss (.tmp 36) (.tmp 35))])
  (.seq (.cond (.tmp 37)
  .skip
  (.exit 2))
  (.seq (.block 3 (.seq (.region [od 38 (.move (.tmp 36)), od 39 (.indexAddr 7 (.tmp 34) (.tmp 36)), od 40 (.load true 7 (.tmp 39)), od 10 (.new 176 7 (.const (.agg [.int .i64 0, .int .i64 0, .int .i64 0, .str [], .str [], .int .i64 0, .int .i64 0]))),
 od 9 (.move (.tmp 38)), ow (.store true 7 (.tmp 10) (.tmp 40))])
  (.seq (.region [od 41 (.load true 4 (.tmp 2)), od 42 (.fieldAddr 0 (.tmp 10)), od 43 (.load false 1 (.tmp 42)), od 44 (.call 720 false (fc 19) [(.tmp 41), (.tmp 43)]),
 od 45 (.move (.tmp 9)), od 46 (.bin .eql (.tmp 44) (.tmp 45)), od 47 (.move (.tmp 46)), ⟨some 48, .load true 4 (.tmp 2), some (47, true), []⟩,
 ⟨some 49, .fieldAddr 0 (.tmp 7), some (47, true), []⟩, ⟨some 50, .load false 1 (.tmp 49), some (47, true), []⟩, ⟨some 51, .fieldAddr 0 (.tmp 10), some (47, true), []⟩, ⟨some 52, .load false 1 (.tmp 51), some (47, true), []⟩,
 ⟨some 53, .call 864 false (fc 8) [(.tmp 48), (.tmp 50), (.tmp 52)], some (47, true), []⟩, ⟨some 54, .bin .eql (.tmp 53) (ic 0), some (47, true), []⟩, od 55 (.pick (.tmp 47) (.tmp 54) (.const (.bool false)))])
  (.cond (.tmp 55)
  (.region [od 56 (.move (.tmp 8)), od 57 (.load true 7 (.tmp 10)), od 58 (.buildSlice 944 7 (.agg [.int .i64 0, .int .i64 0, .int .i64 0, .str [], .str [], .int .i64 0, .int .i64 0]) 1 [(0, (.tmp 57))]), od 59 (.append 145 7 1927910799188 (.tmp 56) (.tmp 58)),
 od 8 (.ren 145 (.tmp 59))])
  .skip))))
  (.region [od 60 (.bin .add (.tmp 36) (ic 1)), od 36 (.move (.tmp 60))]))))
abbrev f9_l1 : ACode :=
  (.seq (.region [od 17 (.bin .lss (.tmp 16) (.tmp 15))])
  (.seq (.cond (.tmp 17)
  .skip
  (.exit 0))
  (.seq (.block 1 (.seq (.region [od 18 (.move (.tmp 16)), od 19 (.indexAddr 7 (.tmp 14) (.tmp 16)), od 20 (.load true 7 (.tmp 19)), od 7 (.new 128 7 (.const (.agg [.int .i64 0, .int .i64 0, .int .i64 0, .str [], .str [], .int .i64 0, .int .i64 0]))),
 od 6 (.move (.tmp 18)), ow (.store true 7 (.tmp 7) (.tmp 20))])
  (.seq (.seq (.region [od 21 (.fieldAddr 6 (.tmp 7)), od 22 (.load false 1 (.tmp 21)), od 23 (.move (.tmp 1)), od 24 (.bin .neq (.tmp 22) (.tmp 23)),
 od 25 (.move (.tmp 24)), ⟨some 26, .load true 4 (.tmp 2), some (25, false), []⟩, ⟨some 27, .fieldAddr 0 (.tmp 7), some (25, false), []⟩, ⟨some 28, .load false 1 (.tmp 27), some (25, false), []⟩,
 ⟨some 29, .call 480 false (fc 19) [(.tmp 26), (.tmp 28)], some (25, false), []⟩, ⟨some 30, .move (.tmp 6), some (25, false), []⟩, ⟨some 31, .bin .neq (.tmp 29) (.tmp 30), some (25, false), []⟩, od 32 (.pick (.tmp 25) (.const (.bool true)) (.tmp 31))])
  (.cond (.tmp 32)
  (.exit 1)
  .skip))
  (.seq (.region [od 8 (.emptyBuf 145 7)])
  (.seq (.seq (.region [od 33 (.fieldAddr 3 (.tmp 2)), od 34 (.load false 1 (.tmp 33)), od 35 (.len (.tmp 34)), od 36 (.move (ic 0))])
  (.block 2 (.loop f9_l0)))
  (.seq (.region [od 62 (.move (.tmp 8)), od 63 (.mkFunc 21 [(.tmp 7)]), od 64 (.call 1040 false (fc 20) [(.tmp 62), (.tmp 63)]), od 61 (.move (.tmp 64)),
 od 65 (.extract (.tmp 61) 0), od 66 (.extract (.tmp 61) 1), od 11 (.new 192 7 (.const (.agg [.int .i64 0, .int .i64 0, .int .i64 0, .str [], .str [], .int .i64 0, .int .i64 0]))), ow (.store true 7 (.tmp 11) (.tmp 65)),
 od 12 (.move (.tmp 66))])
  (.seq (.region [od 67 (.move (.tmp 12))])
  (.cond (.tmp 67)
  (.drawn [od 68 (.move (.tmp 5)), od 69 (.load true 4 (.tmp 2)), od 70 (.fieldAddr 0 (.tmp 7)), op 71 (.load false 1 (.tmp 70)) [2],
 od 72 (.fieldAddr 0 (.tmp 11)), op 73 (.load false 1 (.tmp 72)) [4], op 74 (.call 1200 false (fc 12) [(.tmp 69), (.tmp 71), (.tmp 73)]) [1, 3, 5], op 75 (.max [(ic 1), (.tmp 74)]) [6],
 od 76 (.fieldAddr 0 (.tmp 7)), op 77 (.load false 1 (.tmp 76)) [8], od 78 (.fieldAddr 0 (.tmp 11)), op 79 (.load false 1 (.tmp 78)) [10],
 op 80 (.build [.int .i64 0, .int .i64 0, .int .i64 0, .int .i64 0, .int .i64 0] [(0, 1, (ic 4)), (1, 1, (.tmp 75)), (2, 1, (.tmp 77)), (3, 1, (.tmp 79))]) [7, 9, 11], op 81 (.buildSlice 1312 5 (.agg [.int .i64 0, .int .i64 0, .int .i64 0, .int .i64 0, .int .i64 0]) 1 [(0, (.tmp 80))]) [12], op 82 (.append 97 5 3432621667003 (.tmp 68) (.tmp 81)) [0, 13, 6], op 5 (.ren 97 (.tmp 82)) ([14, 14] ++ rg 15)])
  .skip))))))))
  (.region [od 83 (.bin .add (.tmp 16) (ic 1)), od 16 (.move (.tmp 83))]))))
def f9_b : ACode :=
  (.seq (.region [od 2 (.new 48 4 (.tmp 0)), od 4 (.emptyBuf 81 5)])
  (.scope (.seq (.region [od 5 (.emptyBuf 97 5)])
  (.seq .skip
  (.seq (.seq (.region [od 13 (.fieldAddr 3 (.tmp 2)), od 14 (.load false 1 (.tmp 13)), od 15 (.len (.tmp 14)), od 16 (.move (ic 0))])
  (.block 0 (.loop f9_l1)))
  (.seq (.region [od 84 (.move (.tmp 5)), od 85 (.call 1376 false (fc 25) [(.tmp 84), (fc 26)])])
  (.seq (.region [od 86 (.move (.tmp 5)), od 4 (.move (.tmp 86))])
  .ret)))))))
def f9 : AFunc := ⟨2, 87, [], [.tmp 4], f9_b⟩

/-! 83: hachure/hachureref07.Made -/
abbrev f83_l0 : ACode :=
  (.seq (.seq (.region [od 55 (.move (.tmp 12)), od 56 (.move (.tmp 9)), od 57 (.bin .lss (.tmp 55) (.tmp 56))])
  (.cond (.tmp 57)
  .skip
  (.exit 2)))
  (.seq (.block 3 (.seq (.region [od 60 (.move (.tmp 11)), od 61 (.move (.tmp 12)), od 62 (.move (.tmp 11)), od 63 (.bin .add (ic 21) (.tmp 62)),
 od 64 (.move (.tmp 8)), od 65 (.move (.tmp 12)), od 66 (.bin .mul (.tmp 64) (.tmp 65)), od 67 (.bin .add (.tmp 63) (.tmp 66)),
 od 68 (.indexArr 3 2 (.tmp 10) (.tmp 60)), od 69 (.indexArr 2 1 (.tmp 68) (.tmp 61)), ow (.store false 1 (.tmp 69) (.tmp 67))])
  (.seq (.seq (.region [od 70 (.move (.tmp 11)), od 71 (.bin .gtr (.tmp 70) (ic 0)), od 72 (.move (.tmp 71)), ⟨some 73, .move (.tmp 7), some (72, true), []⟩,
 ⟨some 74, .call 1200 false (fc 85) [(.tmp 73), (ic 5)], some (72, true), []⟩, ⟨some 75, .bin .eql (.tmp 74) (ic 0), some (72, true), []⟩, od 76 (.pick (.tmp 72) (.tmp 75) (.const (.bool false)))])
  (.cond (.tmp 76)
  (.drawn [od 77 (.move (.tmp 11)), od 78 (.move (.tmp 12)), od 79 (.move (.tmp 11)), op 80 (.bin .sub (.tmp 79) (ic 1)) [2],
 od 81 (.move (.tmp 12)), op 82 (.indexArr 3 2 (.tmp 10) (.tmp 80)) [3], op 83 (.indexArr 2 1 (.tmp 82) (.tmp 81)) [5, 4], op 84 (.load false 1 (.tmp 83)) [6],
 op 85 (.indexArr 3 2 (.tmp 10) (.tmp 77)) [0], op 86 (.indexArr 2 1 (.tmp 85) (.tmp 78)) ([8, 1] ++ rg 8), ⟨none, .store false 1 (.tmp 86) (.tmp 84), none, ([9, 7] ++ rg 8)⟩])
  .skip))
  (.seq (.region [od 87 (.move (.tmp 12)), od 88 (.bin .gtr (.tmp 87) (ic 0)), od 89 (.move (.tmp 88)), ⟨some 90, .move (.tmp 7), some (89, true), []⟩,
 ⟨some 91, .call 1472 false (fc 85) [(.tmp 90), (ic 5)], some (89, true), []⟩, ⟨some 92, .bin .eql (.tmp 91) (ic 0), some (89, true), []⟩, od 93 (.pick (.tmp 89) (.tmp 92) (.const (.bool false)))])
  (.cond (.tmp 93)
  (.drawn [od 94 (.move (.tmp 11)), od 95 (.move (.tmp 12)), od 96 (.move (.tmp 11)), od 97 (.move (.tmp 12)),
 op 98 (.bin .sub (.tmp 97) (ic 1)) [3], op 99 (.indexArr 3 2 (.tmp 10) (.tmp 96)) [2], op 100 (.indexArr 2 1 (.tmp 99) (.tmp 98)) [5, 4], op 101 (.load false 1 (.tmp 100)) [6],
 op 102 (.indexArr 3 2 (.tmp 10) (.tmp 94)) [0], op 103 (.indexArr 2 1 (.tmp 102) (.tmp 95)) ([8, 1] ++ rg 8), ⟨none, .store false 1 (.tmp 103) (.tmp 101), none, ([9, 7] ++ rg 8)⟩])
  .skip)))))
  (.region [od 58 (.move (.tmp 12)), od 59 (.bin .add (.tmp 58) (ic 1)), od 12 (.move (.tmp 59))])))
abbrev f83_l1 : ACode :=
  (.seq (.seq (.region [od 50 (.move (.tmp 11)), od 51 (.move (.tmp 8)), od 52 (.bin .lss (.tmp 50) (.tmp 51))])
  (.cond (.tmp 52)
  .skip
  (.exit 0)))
  (.seq (.block 1 (.seq (.region [od 12 (.move (ic 0))])
  (.block 2 (.loop f83_l0))))
  (.region [od 53 (.move (.tmp 11)), od 54 (.bin .add (.tmp 53) (ic 1)), od 11 (.move (.tmp 54))])))
abbrev f83_l2 : ACode :=
  (.seq (.seq (.region [od 112 (.move (.tmp 16)), od 113 (.move (.tmp 8)), od 114 (.bin .lss (.tmp 112) (.tmp 113))])
  (.cond (.tmp 114)
  .skip
  (.exit 6)))
  (.seq (.block 7 (.drawn [od 117 (.move (.tmp 14)), od 118 (.move (.tmp 5)), od 119 (.move (.tmp 16)), od 120 (.move (.tmp 15)),
 op 121 (.call 1952 false (fc 115) [(.tmp 118), (.tmp 119), (.tmp 120)]) [1, 2, 3], od 122 (.move (.tmp 5)), od 123 (.move (.tmp 16)), op 124 (.bin .add (.tmp 123) (ic 1)) [6],
 od 125 (.move (.tmp 15)), op 126 (.call 2032 false (fc 115) [(.tmp 122), (.tmp 124), (.tmp 125)]) [5, 7, 8, 4], od 127 (.move (.tmp 13)), op 128 (.call 2064 false (fc 114) [(.tmp 121), (.tmp 126), (.tmp 127)]) [4, 9, 10, 9],
 od 129 (.load true 6 (.tmp 10)), od 130 (.move (.tmp 8)), od 131 (.move (.tmp 9)), od 132 (.move (.tmp 16)),
 od 133 (.move (.tmp 15)), op 134 (.call 2160 false (fc 116) [(.tmp 129), (.tmp 130), (.tmp 131), (.tmp 132), (.tmp 133)]) [12, 13, 14, 15, 16, 11], od 135 (.load true 6 (.tmp 10)), od 136 (.move (.tmp 8)),
 od 137 (.move (.tmp 9)), od 138 (.move (.tmp 16)), od 139 (.move (.tmp 15)), op 140 (.bin .sub (.tmp 139) (ic 1)) [22],
 op 141 (.call 2272 false (fc 116) [(.tmp 135), (.tmp 136), (.tmp 137), (.tmp 138), (.tmp 140)]) [18, 19, 20, 21, 23, 17], od 142 (.move (.tmp 13)), op 143 (.call 2304 true (fc 113) [(.tmp 117), (.tmp 128), (.tmp 134), (.tmp 141), (.tmp 142)]) [0, 11, 17, 24, 25, 24], op 14 (.ren 241 (.tmp 143)) ([26, 26] ++ rg 27)]))
  (.region [od 115 (.move (.tmp 16)), od 116 (.bin .add (.tmp 115) (ic 1)), od 16 (.move (.tmp 116))])))
abbrev f83_l3 : ACode :=
  (.seq (.seq (.region [od 107 (.move (.tmp 15)), od 108 (.move (.tmp 9)), od 109 (.bin .leq (.tmp 107) (.tmp 108))])
  (.cond (.tmp 109)
  .skip
  (.exit 4)))
  (.seq (.block 5 (.seq (.region [od 16 (.move (ic 0))])
  (.block 6 (.loop f83_l2))))
  (.region [od 110 (.move (.tmp 15)), od 111 (.bin .add (.tmp 110) (ic 1)), od 15 (.move (.tmp 111))])))
abbrev f83_l4 : ACode :=
  (.seq (.seq (.region [od 149 (.move (.tmp 18)), od 150 (.move (.tmp 8)), od 151 (.bin .leq (.tmp 149) (.tmp 150))])
  (.cond (.tmp 151)
  .skip
  (.exit 10)))
  (.seq (.block 11 (.drawn [od 154 (.move (.tmp 14)), od 155 (.move (.tmp 5)), od 156 (.move (.tmp 18)), od 157 (.move (.tmp 17)),
 op 158 (.call 2544 false (fc 115) [(.tmp 155), (.tmp 156), (.tmp 157)]) [1, 2, 3], od 159 (.move (.tmp 5)), od 160 (.move (.tmp 18)), od 161 (.move (.tmp 17)),
 op 162 (.bin .add (.tmp 161) (ic 1)) [7], op 163 (.call 2624 false (fc 115) [(.tmp 159), (.tmp 160), (.tmp 162)]) [5, 6, 8, 4], od 164 (.move (.tmp 13)), op 165 (.call 2656 false (fc 114) [(.tmp 158), (.tmp 163), (.tmp 164)]) [4, 9, 10, 9],
 od 166 (.load true 6 (.tmp 10)), od 167 (.move (.tmp 8)), od 168 (.move (.tmp 9)), od 169 (.move (.tmp 18)),
 op 170 (.bin .sub (.tmp 169) (ic 1)) [15], od 171 (.move (.tmp 17)), op 172 (.call 2768 false (fc 116) [(.tmp 166), (.tmp 167), (.tmp 168), (.tmp 170), (.tmp 171)]) [12, 13, 14, 16, 17, 11], od 173 (.load true 6 (.tmp 10)),
 od 174 (.move (.tmp 8)), od 175 (.move (.tmp 9)), od 176 (.move (.tmp 18)), od 177 (.move (.tmp 17)),
 op 178 (.call 2864 false (fc 116) [(.tmp 173), (.tmp 174), (.tmp 175), (.tmp 176), (.tmp 177)]) [19, 20, 21, 22, 23, 18], od 179 (.move (.tmp 13)), op 180 (.call 2896 true (fc 113) [(.tmp 154), (.tmp 165), (.tmp 172), (.tmp 178), (.tmp 179)]) [0, 11, 18, 24, 25, 24], op 14 (.ren 241 (.tmp 180)) ([26, 26] ++ rg 27)]))
  (.region [od 152 (.move (.tmp 18)), od 153 (.bin .add (.tmp 152) (ic 1)), od 18 (.move (.tmp 153))])))
abbrev f83_l5 : ACode :=
  (.seq (.seq (.region [od 144 (.move (.tmp 17)), od 145 (.move (.tmp 9)), od 146 (.bin .lss (.tmp 144) (.tmp 145))])
  (.cond (.tmp 146)
  .skip
  (.exit 8)))
  (.seq (.block 9 (.seq (.region [od 18 (.move (ic 0))])
  (.block 10 (.loop f83_l4))))
  (.region [od 147 (.move (.tmp 17)), od 148 (.bin .add (.tmp 147) (ic 1)), od 17 (.move (.tmp 148))])))
def f83_b : ACode :=
  (.seq (.region [od 2 (.move (.const (.lit 4 []))), od 3 (.move (.const (.lit 5 [])))])
  (.seq (.region [od 4 (.move (.const (.lit 1 []))), od 5 (.move (.const (.lit 1 []))), od 6 (.move (.const (.lit 1 [])))])
  (.seq (.seq (.region [od 21 (.move (.tmp 0)), od 22 (.len (.tmp 21)), od 23 (.bin .gtr (.tmp 22) (ic 0))])
  (.cond (.tmp 23)
  (.region [od 24 (.move (.tmp 0)), od 25 (.indexAddr 1 (.tmp 24) (ic 0)), od 26 (.load false 1 (.tmp 25)), od 4 (.move (.tmp 26))])
  .skip))
  (.seq (.seq (.region [od 27 (.move (.tmp 0)), od 28 (.len (.tmp 27)), od 29 (.bin .gtr (.tmp 28) (ic 1))])
  (.cond (.tmp 29)
  (.region [od 30 (.move (.tmp 0)), od 31 (.indexAddr 1 (.tmp 30) (ic 1)), od 32 (.load false 1 (.tmp 31)), od 5 (.move (.tmp 32))])
  .skip))
  (.seq (.seq (.region [od 33 (.move (.tmp 0)), od 34 (.len (.tmp 33)), od 35 (.bin .gtr (.tmp 34) (ic 2))])
  (.cond (.tmp 35)
  (.region [od 36 (.move (.tmp 0)), od 37 (.indexAddr 1 (.tmp 36) (ic 2)), od 38 (.load false 1 (.tmp 37)), od 6 (.move (.tmp 38))])
  .skip))
  (.seq (.region [od 39 (.move (.tmp 4)), od 40 (.build [.lit 1 [], .int .i64 0] [(0, 1, (.tmp 39))]), od 41 (.new 672 2 (.tmp 40)), od 7 (.move (.tmp 41))])
  (.seq (.region [od 42 (.move (.tmp 7)), od 43 (.call 704 false (fc 85) [(.tmp 42), (ic 3)]), od 44 (.bin .add (ic 1) (.tmp 43)), od 8 (.move (.tmp 44))])
  (.seq (.region [od 45 (.move (.tmp 7)), od 46 (.call 752 false (fc 85) [(.tmp 45), (ic 2)]), od 47 (.bin .add (ic 1) (.tmp 46)), od 9 (.move (.tmp 47))])
  (.seq (.seq (.region [od 48 (.move (.tmp 8)), od 49 (.bin .eql (.tmp 48) (ic 3))])
  (.cond (.tmp 49)
  (.region [od 9 (.move (ic 1))])
  .skip))
  (.seq (.region [od 10 (.new 176 6 (.const (.agg [.int .i64 0, .int .i64 0, .int .i64 0, .int .i64 0, .int .i64 0, .int .i64 0])))])
  (.seq (.seq (.region [od 11 (.move (ic 0))])
  (.block 0 (.loop f83_l1)))
  (.seq (.region [od 104 (.move (.tmp 6)), od 105 (.build [.lit 1 [], .int .i64 0] [(0, 1, (.tmp 104))]), od 106 (.new 1712 2 (.tmp 105)), od 13 (.move (.tmp 106))])
  (.seq (.region [od 14 (.emptyBuf 241 4)])
  (.seq (.seq (.region [od 15 (.move (ic 0))])
  (.block 4 (.loop f83_l3)))
  (.seq (.seq (.region [od 17 (.move (ic 0))])
  (.block 8 (.loop f83_l5)))
  (.seq (.seq (.region [od 181 (.move (.tmp 7)), od 182 (.call 2928 false (fc 85) [(.tmp 181), (ic 2)]), od 183 (.bin .eql (.tmp 182) (ic 1))])
  (.cond (.tmp 183)
  (.seq (.region [od 184 (.move (.tmp 7)), od 185 (.move (.tmp 8)), od 186 (.call 2992 false (fc 85) [(.tmp 184), (.tmp 185)]), od 19 (.move (.tmp 186))])
  (.seq (.region [od 187 (.move (.tmp 7)), od 188 (.move (.tmp 9)), od 189 (.call 3040 false (fc 85) [(.tmp 187), (.tmp 188)]), od 20 (.move (.tmp 189))])
  (.region [od 190 (.move (.tmp 14)), od 191 (.move (.tmp 19)), od 192 (.bin .mul (ic 100) (.tmp 191)), od 193 (.bin .add (ic 90) (.tmp 192)),
 od 194 (.move (.tmp 20)), od 195 (.bin .mul (ic 100) (.tmp 194)), od 196 (.bin .add (ic 90) (.tmp 195)), od 197 (.build [.int .i64 0, .int .i64 0] [(0, 1, (.tmp 193)), (1, 1, (.tmp 196))]),
 od 198 (.move (.tmp 19)), od 199 (.move (.tmp 20)), od 200 (.indexArr 3 2 (.tmp 10) (.tmp 198)), od 201 (.indexArr 2 1 (.tmp 200) (.tmp 199)),
 od 202 (.load false 1 (.tmp 201)), od 203 (.move (.tmp 13)), od 204 (.call 3280 true (fc 117) [(.tmp 190), (.tmp 197), (.tmp 202), (.tmp 203)]), od 14 (.ren 241 (.tmp 204))])))
  .skip))
  (.seq (.region [od 205 (.move (.tmp 14)), od 206 (.move (.tmp 14)), od 207 (.call 3328 true (fc 118) [(.tmp 206)]), od 2 (.move (.tmp 205)),
 od 3 (.move (.tmp 207))])
  .ret)))))))))))))))))
def f83 : AFunc := ⟨1, 208, [], [.tmp 2, .tmp 3], f83_b⟩

/-! 84: hachure/hachureref10.part -/
def f84_b : ACode :=
  (.seq (.region [od 4 (.move (.const (.lit 1 [])))])
  (.seq (.seq (.region [od 5 (.move (.tmp 1)), od 6 (.move (.tmp 0)), od 7 (.len (.tmp 6)), od 8 (.bin .geq (.tmp 5) (.tmp 7))])
  (.cond (.tmp 8)
  (.seq (.region [od 4 (.move (.const (.lit 1 [])))])
  .ret)
  .skip))
  (.seq (.region [od 9 (.move (.tmp 0)), od 10 (.move (.tmp 1)), od 11 (.indexAddr 1 (.tmp 9) (.tmp 10)), od 12 (.load false 1 (.tmp 11)),
 od 4 (.move (.tmp 12))])
  .ret)))
def f84 : AFunc := ⟨2, 13, [], [.tmp 4], f84_b⟩

/-! 85: (*hachure/hachureref01.Draw).Next -/
def f85_b : ACode :=
  (.seq (.region [od 4 (.move (ic 0))])
  (.seq (.seq (.drawn [od 5 (.move (.tmp 0)), op 6 (.nilCheck (.tmp 5)) [0], op 7 (.fieldAddr 1 (.tmp 6)) [1], op 8 (.load false 1 (.tmp 7)) [2],
 od 9 (.move (.tmp 0)), op 10 (.nilCheck (.tmp 9)) [4], op 11 (.fieldAddr 0 (.tmp 10)) [5], op 12 (.load false 1 (.tmp 11)) [6],
 op 13 (.len (.tmp 12)) [7], op 14 (.bin .geq (.tmp 8) (.tmp 13)) [3, 8]])
  (.cond (.tmp 14)
  (.seq (.region [od 4 (.move (ic 0))])
  .ret)
  .skip))
  (.seq (.region [od 15 (.move (.tmp 0)), od 16 (.nilCheck (.tmp 15)), od 17 (.fieldAddr 1 (.tmp 16)), od 18 (.load false 1 (.tmp 17)),
 od 19 (.bin .add (.tmp 18) (ic 1)), od 20 (.nilCheck (.tmp 15)), od 21 (.fieldAddr 1 (.tmp 20)), ow (.store false 1 (.tmp 21) (.tmp 19))])
  (.seq (.drawn [od 22 (.move (.tmp 0)), op 23 (.nilCheck (.tmp 22)) [0], op 24 (.fieldAddr 0 (.tmp 23)) [1], op 25 (.load false 1 (.tmp 24)) [2],
 od 26 (.move (.tmp 0)), op 27 (.nilCheck (.tmp 26)) [4], op 28 (.fieldAddr 1 (.tmp 27)) [5], op 29 (.load false 1 (.tmp 28)) [6],
 op 30 (.bin .sub (.tmp 29) (ic 1)) [7], op 31 (.indexAddr 1 (.tmp 25) (.tmp 30)) [3, 8], op 32 (.load false 1 (.tmp 31)) [9], od 33 (.move (.tmp 1)),
 op 34 (.call 560 false (fc 93) [(.tmp 32), (.tmp 33)]) [10, 11], op 4 (.move (.tmp 34)) ([12, 12] ++ rg 13)])
  .ret))))
def f85 : AFunc := ⟨2, 35, [some 2, none], [.tmp 4], f85_b⟩

/-! 86: hachure/hachureref10.ways -/
abbrev f86_l0 : ACode :=
  (.seq (.seq (.region [od 15 (.move (.tmp 6)), od 16 (.bin .lss (.tmp 15) (ic 3))])
  (.cond (.tmp 16)
  .skip
  (.exit 2)))
  (.seq (.block 3 (.seq (.region [od 19 (.move (.tmp 3)), od 20 (.call 336 false (fc 85) [(.tmp 19), (ic 2)]), od 21 (.bin .eql (.tmp 20) (ic 0))])
  (.cond (.tmp 21)
  (.region [od 22 (.move (.tmp 4)), od 23 (.move (.tmp 6)), od 24 (.move (.tmp 5)), od 25 (.call 416 false (fc 120) [(.tmp 23), (.tmp 24)]),
 od 26 (.move (.tmp 6)), od 27 (.bin .add (.tmp 26) (ic 1)), od 28 (.move (.tmp 5)), od 29 (.call 480 false (fc 120) [(.tmp 27), (.tmp 28)]),
 od 30 (.move (.tmp 3)), od 31 (.call 512 true (fc 119) [(.tmp 22), (.tmp 25), (.tmp 29), (ic 0), (.tmp 30)]), od 4 (.ren 81 (.tmp 31))])
  .skip)))
  (.region [od 17 (.move (.tmp 6)), od 18 (.bin .add (.tmp 17) (ic 1)), od 6 (.move (.tmp 18))])))
abbrev f86_l1 : ACode :=
  (.seq (.seq (.region [od 11 (.move (.tmp 5)), od 12 (.bin .lss (.tmp 11) (ic 2))])
  (.cond (.tmp 12)
  .skip
  (.exit 0)))
  (.seq (.block 1 (.seq (.region [od 6 (.move (ic 0))])
  (.block 2 (.loop f86_l0))))
  (.region [od 13 (.move (.tmp 5)), od 14 (.bin .add (.tmp 13) (ic 1)), od 5 (.move (.tmp 14))])))
abbrev f86_l2 : ACode :=
  (.seq (.seq (.region [od 32 (.move (.tmp 7)), od 33 (.bin .lss (.tmp 32) (ic 4)), od 34 (.move (.tmp 33)), ⟨some 35, .move (.tmp 4), some (34, true), []⟩,
 ⟨some 36, .len (.tmp 35), some (34, true), []⟩, ⟨some 37, .bin .lss (.tmp 36) (ic 5), some (34, true), []⟩, od 38 (.pick (.tmp 34) (.tmp 37) (.const (.bool false)))])
  (.cond (.tmp 38)
  .skip
  (.exit 4)))
  (.seq (.block 5 (.seq (.region [od 41 (.move (.tmp 3)), od 42 (.call 688 false (fc 85) [(.tmp 41), (ic 2)]), od 43 (.bin .eql (.tmp 42) (ic 0))])
  (.cond (.tmp 43)
  (.region [od 44 (.move (.tmp 4)), od 45 (.move (.tmp 7)), od 46 (.call 752 false (fc 120) [(.tmp 45), (ic 0)]), od 47 (.move (.tmp 7)),
 od 48 (.call 784 false (fc 120) [(.tmp 47), (ic 1)]), od 49 (.move (.tmp 3)), od 50 (.call 816 true (fc 119) [(.tmp 44), (.tmp 46), (.tmp 48), (ic 0), (.tmp 49)]), od 4 (.ren 81 (.tmp 50))])
  .skip)))
  (.region [od 39 (.move (.tmp 7)), od 40 (.bin .add (.tmp 39) (ic 1)), od 7 (.move (.tmp 40))])))
def f86_b : ACode :=
  (.seq (.region [od 2 (.move (.const (.lit 8 [])))])
  (.seq (.region [od 8 (.move (.tmp 0)), od 9 (.build [.lit 1 [], .int .i64 0] [(0, 1, (.tmp 8))]), od 10 (.new 176 2 (.tmp 9)), od 3 (.move (.tmp 10))])
  (.seq (.region [od 4 (.emptyBuf 81 8)])
  (.seq (.seq (.region [od 5 (.move (ic 0))])
  (.block 0 (.loop f86_l1)))
  (.seq (.seq (.region [od 7 (.move (ic 0))])
  (.block 4 (.loop f86_l2)))
  (.seq (.seq (.region [od 51 (.move (.tmp 3)), od 52 (.call 848 false (fc 85) [(.tmp 51), (ic 3)]), od 53 (.bin .eql (.tmp 52) (ic 0))])
  (.cond (.tmp 53)
  (.region [od 54 (.move (.tmp 4)), od 55 (.call 896 false (fc 120) [(ic 0), (ic 0)]), od 56 (.move (.tmp 3)), od 57 (.call 928 false (fc 85) [(.tmp 56), (ic 2)]),
 od 58 (.bin .add (ic 2) (.tmp 57)), od 59 (.call 960 false (fc 120) [(.tmp 58), (ic 1)]), od 60 (.move (.tmp 3)), od 61 (.call 992 true (fc 119) [(.tmp 54), (.tmp 55), (.tmp 59), (ic 1), (.tmp 60)]),
 od 4 (.ren 81 (.tmp 61))])
  .skip))
  (.seq (.seq (.region [od 62 (.move (.tmp 3)), od 63 (.call 1024 false (fc 85) [(.tmp 62), (ic 4)]), od 64 (.bin .eql (.tmp 63) (ic 0))])
  (.cond (.tmp 64)
  (.region [od 65 (.move (.tmp 4)), od 66 (.call 1072 false (fc 120) [(ic 1), (ic 1)]), od 67 (.call 1088 false (fc 120) [(ic 3), (ic 0)]), od 68 (.move (.tmp 3)),
 od 69 (.call 1120 true (fc 119) [(.tmp 65), (.tmp 66), (.tmp 67), (ic (-1)), (.tmp 68)]), od 4 (.ren 81 (.tmp 69))])
  .skip))
  (.seq (.region [od 70 (.move (.tmp 4)), od 2 (.move (.tmp 70))])
  .ret))))))))
def f86 : AFunc := ⟨1, 71, [], [.tmp 2], f86_b⟩

/-! 87: hachure/hachureref10.places -/
abbrev f87_l0 : ACode :=
  (.seq (.seq (.region [od 18 (.move (.tmp 8)), od 19 (.move (.tmp 7)), od 20 (.bin .lss (.tmp 18) (.tmp 19))])
  (.cond (.tmp 20)
  .skip
  (.exit 0)))
  (.seq (.block 1 (.seq (.region [od 23 (.move (.tmp 5)), od 24 (.call 400 false (fc 85) [(.tmp 23), (ic 10)]), od 25 (.bin .add (ic 16) (.tmp 24)), od 9 (.move (.tmp 25))])
  (.seq (.seq (.region [od 26 (.move (.tmp 5)), od 27 (.call 448 false (fc 85) [(.tmp 26), (ic 2)]), od 28 (.bin .eql (.tmp 27) (ic 1))])
  (.cond (.tmp 28)
  (.region [od 29 (.move (.tmp 9)), od 30 (.un .neg (.tmp 29)), od 9 (.move (.tmp 30))])
  .skip))
  (.seq (.region [od 31 (.move (.tmp 6)), od 32 (.len (.tmp 31)), od 33 (.bin .add (ic 61) (.tmp 32)), od 34 (.move (.tmp 5)),
 od 35 (.call 576 false (fc 85) [(.tmp 34), (ic 3)]), od 36 (.bin .mul (ic 100) (.tmp 35)), od 37 (.bin .add (ic 90) (.tmp 36)), od 38 (.move (.tmp 9)),
 od 39 (.bin .add (.tmp 37) (.tmp 38)), od 40 (.move (.tmp 5)), od 41 (.call 672 false (fc 85) [(.tmp 40), (ic 2)]), od 42 (.bin .mul (ic 100) (.tmp 41)),
 od 43 (.bin .add (ic 90) (.tmp 42)), od 44 (.move (.tmp 5)), od 45 (.call 736 false (fc 85) [(.tmp 44), (ic 51)]), od 46 (.bin .add (.tmp 43) (.tmp 45)),
 od 47 (.bin .sub (.tmp 46) (ic 25)), od 48 (.build [.int .i64 0, .int .i64 0] [(0, 1, (.tmp 39)), (1, 1, (.tmp 47))]), od 49 (.move (.tmp 5)), od 50 (.call 816 false (fc 85) [(.tmp 49), (ic 60)]),
 od 51 (.bin .add (ic 1) (.tmp 50)), od 52 (.build [.int .i64 0, .int .i64 0, .int .i64 0, .str [], .str [], .int .i64 0, .int .i64 0] [(0, 1, (.tmp 33)), (1, 2, (.tmp 48)), (5, 1, (.tmp 51))]), od 10 (.new 176 7 (.const (.agg [.int .i64 0, .int .i64 0, .int .i64 0, .str [], .str [], .int .i64 0, .int .i64 0]))), ow (.store true 7 (.tmp 10) (.tmp 52))])
  (.seq (.region [od 53 (.buildSlice 864 1 (.str []) 3 [(0, (.const (.str [116, 114, 101, 101]))), (1, (.const (.str [116, 114, 101, 101]))), (2, (.const (.str [115, 104, 111, 112])))]), od 54 (.move (.tmp 5)), od 55 (.call 896 false (fc 85) [(.tmp 54), (ic 3)]), od 56 (.indexAddr 1 (.tmp 53) (.tmp 55)),
 od 57 (.load false 1 (.tmp 56)), od 58 (.fieldAddr 3 (.tmp 10)), ow (.store false 1 (.tmp 58) (.tmp 57))])
  (.seq (.region [od 59 (.buildSlice 960 1 (.str []) 5 [(0, (.const (.str []))), (1, (.const (.str []))), (2, (.const (.str [71, 97, 116, 101]))), (3, (.const (.str [79, 97, 107]))), (4, (.const (.str [84, 104, 101, 32, 87, 101, 108, 108])))]), od 60 (.move (.tmp 5)), od 61 (.call 992 false (fc 85) [(.tmp 60), (ic 5)]), od 62 (.indexAddr 1 (.tmp 59) (.tmp 61)),
 od 63 (.load false 1 (.tmp 62)), od 64 (.fieldAddr 4 (.tmp 10)), ow (.store false 1 (.tmp 64) (.tmp 63))])
  (.seq (.region [od 66 (.fieldAddr 0 (.tmp 2)), od 67 (.load false 1 (.tmp 66)), od 68 (.fieldAddr 1 (.tmp 10)), od 69 (.load true 2 (.tmp 68)),
 od 70 (.call 1136 false (fc 121) [(.tmp 67), (.tmp 69)]), od 65 (.move (.tmp 70)), od 71 (.extract (.tmp 65) 0), od 72 (.extract (.tmp 65) 1),
 od 11 (.move (.tmp 71)), od 12 (.move (.tmp 72))])
  (.seq (.region [od 73 (.load true 4 (.tmp 2)), od 74 (.move (.tmp 11)), od 75 (.call 1216 false (fc 122) [(.tmp 73), (.tmp 74)]), od 76 (.fieldAddr 6 (.tmp 10)),
 ow (.store false 1 (.tmp 76) (.tmp 75))])
  (.seq (.region [od 77 (.move (.tmp 12)), od 78 (.move (.tmp 77)), ⟨some 79, .fieldAddr 6 (.tmp 10), some (78, true), []⟩, ⟨some 80, .load false 1 (.tmp 79), some (78, true), []⟩,
 ⟨some 81, .bin .gtr (.tmp 80) (ic 0), some (78, true), []⟩, od 82 (.pick (.tmp 78) (.tmp 81) (.const (.bool false)))])
  (.cond (.tmp 82)
  (.region [od 83 (.move (.tmp 6)), od 84 (.load true 7 (.tmp 10)), od 85 (.buildSlice 1376 7 (.agg [.int .i64 0, .int .i64 0, .int .i64 0, .str [], .str [], .int .i64 0, .int .i64 0]) 1 [(0, (.tmp 84))]), od 86 (.append 113 7 1927910799188 (.tmp 83) (.tmp 85)),
 od 6 (.ren 113 (.tmp 86))])
  .skip))))))))))
  (.region [od 21 (.move (.tmp 8)), od 22 (.bin .add (.tmp 21) (ic 1)), od 8 (.move (.tmp 22))])))
def f87_b : ACode :=
  (.seq (.region [od 2 (.new 48 4 (.tmp 0)), od 4 (.emptyBuf 81 7)])
  (.seq (.region [od 13 (.move (.tmp 1)), od 14 (.build [.lit 1 [], .int .i64 0] [(0, 1, (.tmp 13))]), od 15 (.new 256 2 (.tmp 14)), od 5 (.move (.tmp 15))])
  (.seq (.region [od 6 (.emptyBuf 113 7)])
  (.seq (.region [od 16 (.move (.tmp 5)), od 17 (.call 288 false (fc 85) [(.tmp 16), (ic 7)]), od 7 (.move (.tmp 17))])
  (.seq (.seq (.region [od 8 (.move (ic 0))])
  (.block 0 (.loop f87_l0)))
  (.seq (.region [od 87 (.move (.tmp 6)), od 4 (.move (.tmp 87))])
  .ret))))))
def f87 : AFunc := ⟨2, 88, [], [.tmp 4], f87_b⟩

/-! 88: hachure/hachureref15.Apply -/
abbrev f88_l0 : ACode :=
  (.seq (.seq (.region [od 56 (.move (.tmp 13)), od 57 (.fieldAddr 3 (.tmp 3)), od 58 (.load false 1 (.tmp 57)), od 59 (.len (.tmp 58)),
 od 60 (.bin .lss (.tmp 56) (.tmp 59))])
  (.cond (.tmp 60)
  .skip
  (.exit 0)))
  (.seq (.block 1 (.seq (.region [od 63 (.move (.tmp 13)), od 64 (.move (.tmp 10)), od 65 (.bin .eql (.tmp 63) (.tmp 64))])
  (.cond (.tmp 65)
  (.region [od 66 (.fieldAddr 3 (.tmp 12)), od 67 (.load false 1 (.tmp 66)), od 68 (.load true 7 (.tmp 11)), od 69 (.buildSlice 1120 7 (.agg [.int .i64 0, .int .i64 0, .int .i64 0, .str [], .str [], .int .i64 0, .int .i64 0]) 1 [(0, (.tmp 68))]),
 od 70 (.append 213 7 1927910799188 (.tmp 67) (.tmp 69)), od 71 (.fieldAddr 3 (.tmp 12)), ow (.store false 1 (.tmp 71) (.tmp 70))])
  (.seq (.region [od 72 (.move (.tmp 13)), od 73 (.move (.tmp 9)), od 74 (.bin .neq (.tmp 72) (.tmp 73))])
  (.cond (.tmp 74)
  (.drawn [od 75 (.fieldAddr 3 (.tmp 12)), op 76 (.load false 1 (.tmp 75)) [0], od 77 (.fieldAddr 3 (.tmp 3)), op 78 (.load false 1 (.tmp 77)) [2],
 od 79 (.move (.tmp 13)), op 80 (.indexAddr 7 (.tmp 78) (.tmp 79)) [3, 4], op 81 (.load true 7 (.tmp 80)) [5], op 82 (.buildSlice 1328 7 (.agg [.int .i64 0, .int .i64 0, .int .i64 0, .str [], .str [], .int .i64 0, .int .i64 0]) 1 [(0, (.tmp 81))]) [6],
 op 83 (.append 213 7 1927910799188 (.tmp 76) (.tmp 82)) [1, 7], op 84 (.fieldAddr 3 (.tmp 12)) (rg 9), ⟨none, .store false 1 (.tmp 84) (.tmp 83), none, ([9, 8, 8] ++ rg 9)⟩])
  .skip)))))
  (.region [od 61 (.move (.tmp 13)), od 62 (.bin .add (.tmp 61) (ic 1)), od 13 (.move (.tmp 62))])))
def f88_b : ACode :=
  (.seq (.region [od 3 (.new 64 4 (.tmp 0)), od 6 (.new 112 4 (.const (.agg [.lit 4 [], .lit 5 [], .lit 8 [], .lit 7 []]))), od 7 (.move (ic 0))])
  (.seq (.region [od 14 (.load true 4 (.tmp 3)), od 15 (.move (.tmp 1)), od 16 (.move (.tmp 2)), od 17 (.call 288 false (fc 123) [(.tmp 14), (.tmp 15), (.tmp 16)]),
 od 8 (.move (.tmp 17))])
  (.seq (.seq (.region [od 18 (.move (.tmp 8)), od 19 (.bin .neq (.tmp 18) (ic 0))])
  (.cond (.tmp 19)
  (.seq (.region [od 20 (.build [.lit 4 [], .lit 5 [], .lit 8 [], .lit 7 []] []), od 21 (.move (.tmp 8)), ow (.store true 4 (.tmp 6) (.tmp 20)), od 7 (.move (.tmp 21))])
  .ret)
  .skip))
  (.seq (.region [od 22 (.load true 4 (.tmp 3)), od 23 (.move (.tmp 1)), od 24 (.call 400 false (fc 124) [(.tmp 22), (.tmp 23)]), od 9 (.move (.tmp 24))])
  (.seq (.region [od 25 (.load true 4 (.tmp 3)), od 26 (.move (.tmp 2)), od 27 (.call 448 false (fc 124) [(.tmp 25), (.tmp 26)]), od 10 (.move (.tmp 27))])
  (.seq (.region [od 28 (.fieldAddr 3 (.tmp 3)), od 29 (.load false 1 (.tmp 28)), od 30 (.move (.tmp 10)), od 31 (.indexAddr 7 (.tmp 29) (.tmp 30)),
 od 32 (.load true 7 (.tmp 31)), od 11 (.new 192 7 (.const (.agg [.int .i64 0, .int .i64 0, .int .i64 0, .str [], .str [], .int .i64 0, .int .i64 0]))), ow (.store true 7 (.tmp 11) (.tmp 32))])
  (.seq (.drawn [od 33 (.fieldAddr 3 (.tmp 3)), op 34 (.load false 1 (.tmp 33)) [0], od 35 (.move (.tmp 9)), op 36 (.indexAddr 7 (.tmp 34) (.tmp 35)) [1, 2],
 op 37 (.fieldAddr 5 (.tmp 36)) [3], op 38 (.load false 1 (.tmp 37)) [4], od 39 (.fieldAddr 5 (.tmp 11)), op 40 (.load false 1 (.tmp 39)) [6],
 op 41 (.bin .add (.tmp 38) (.tmp 40)) [5, 7], op 42 (.min [(.tmp 41), (ic 255)]) [8], op 43 (.fieldAddr 5 (.tmp 11)) (rg 10), ⟨none, .store false 1 (.tmp 43) (.tmp 42), none, ([10, 9] ++ rg 10)⟩])
  (.seq (.seq (.region [od 44 (.fieldAddr 4 (.tmp 11)), od 45 (.load false 1 (.tmp 44)), od 46 (.bin .eql (.tmp 45) (.const (.str [])))])
  (.cond (.tmp 46)
  (.region [od 47 (.fieldAddr 3 (.tmp 3)), od 48 (.load false 1 (.tmp 47)), od 49 (.move (.tmp 9)), od 50 (.indexAddr 7 (.tmp 48) (.tmp 49)),
 od 51 (.fieldAddr 4 (.tmp 50)), od 52 (.load false 1 (.tmp 51)), od 53 (.fieldAddr 4 (.tmp 11)), ow (.store false 1 (.tmp 53) (.tmp 52))])
  .skip))
  (.seq (.region [od 54 (.load true 4 (.tmp 3)), od 12 (.new 208 4 (.const (.agg [.lit 4 [], .lit 5 [], .lit 8 [], .nils]))), ow (.store true 4 (.tmp 12) (.tmp 54))])
  (.seq (.region [od 55 (.fieldAddr 3 (.tmp 12)), ow (.store false 1 (.tmp 55) (.const (.nils)))])
  (.seq (.seq (.region [od 13 (.move (ic 0))])
  (.block 0 (.loop f88_l0)))
  (.seq (.region [od 85 (.load true 4 (.tmp 12)), ow (.store true 4 (.tmp 6) (.tmp 85)), od 7 (.move (ic 0))])
  .ret))))))))))))
def f88 : AFunc := ⟨3, 86, [], [.cell 6 true 4, .tmp 7], f88_b⟩

/-! 89: hachure/hachureref10.Same -/
abbrev f89_l0 : ACode :=
  (.seq (.seq (.region [od 45 (.move (.tmp 5)), od 46 (.fieldAddr 0 (.tmp 2)), od 47 (.load false 1 (.tmp 46)), od 48 (.len (.tmp 47)),
 od 49 (.bin .lss (.tmp 45) (.tmp 48))])
  (.cond (.tmp 49)
  .skip
  (.exit 0)))
  (.seq (.block 1 (.seq (.drawn [od 52 (.fieldAddr 0 (.tmp 2)), op 53 (.load false 1 (.tmp 52)) [0], od 54 (.move (.tmp 5)), op 55 (.indexAddr 4 (.tmp 53) (.tmp 54)) [1, 2],
 op 56 (.fieldAddr 1 (.tmp 55)) [3], op 57 (.load false 1 (.tmp 56)) [4], od 58 (.fieldAddr 0 (.tmp 3)), op 59 (.load false 1 (.tmp 58)) [6],
 od 60 (.move (.tmp 5)), op 61 (.indexAddr 4 (.tmp 59) (.tmp 60)) [7, 8], op 62 (.fieldAddr 1 (.tmp 61)) [9], op 63 (.load false 1 (.tmp 62)) [10],
 op 64 (.call 1040 false (fc 125) [(.tmp 57), (.tmp 63)]) [5, 11], op 6 (.move (.tmp 64)) ([12, 12] ++ rg 13)])
  (.seq (.drawn [od 65 (.move (.tmp 6)), op 66 (.un .not (.tmp 65)) [0], op 67 (.move (.tmp 66)) [1], ⟨some 68, .fieldAddr 0 (.tmp 2), some (67, false), [2]⟩,
 ⟨some 69, .load false 1 (.tmp 68), some (67, false), [3, 2]⟩, ⟨some 70, .move (.tmp 5), some (67, false), [2]⟩, ⟨some 71, .indexAddr 4 (.tmp 69) (.tmp 70), some (67, false), [4, 5, 2]⟩, ⟨some 72, .fieldAddr 0 (.tmp 71), some (67, false), [6, 2]⟩,
 ⟨some 73, .load false 1 (.tmp 72), some (67, false), [7, 2]⟩, ⟨some 74, .fieldAddr 0 (.tmp 3), some (67, false), [2]⟩, ⟨some 75, .load false 1 (.tmp 74), some (67, false), [9, 2]⟩, ⟨some 76, .move (.tmp 5), some (67, false), [2]⟩,
 ⟨some 77, .indexAddr 4 (.tmp 75) (.tmp 76), some (67, false), [10, 11, 2]⟩, ⟨some 78, .fieldAddr 0 (.tmp 77), some (67, false), [12, 2]⟩, ⟨some 79, .load false 1 (.tmp 78), some (67, false), [13, 2]⟩, ⟨some 80, .bin .neq (.tmp 73) (.tmp 79), some (67, false), [8, 14, 2]⟩,
 op 81 (.pick (.tmp 67) (.const (.bool true)) (.tmp 80)) [2, 15], op 82 (.move (.tmp 81)) [16, 2], ⟨some 83, .fieldAddr 0 (.tmp 2), some (82, false), [17]⟩, ⟨some 84, .load false 1 (.tmp 83), some (82, false), [18, 17]⟩,
 ⟨some 85, .move (.tmp 5), some (82, false), [17]⟩, ⟨some 86, .indexAddr 4 (.tmp 84) (.tmp 85), some (82, false), [19, 20, 17]⟩, ⟨some 87, .fieldAddr 2 (.tmp 86), some (82, false), [21, 17]⟩, ⟨some 88, .load false 1 (.tmp 87), some (82, false), [22, 17]⟩,
 ⟨some 89, .fieldAddr 0 (.tmp 3), some (82, false), [17]⟩, ⟨some 90, .load false 1 (.tmp 89), some (82, false), [24, 17]⟩, ⟨some 91, .move (.tmp 5), some (82, false), [17]⟩, ⟨some 92, .indexAddr 4 (.tmp 90) (.tmp 91), some (82, false), [25, 26, 17]⟩,
 ⟨some 93, .fieldAddr 2 (.tmp 92), some (82, false), [27, 17]⟩, ⟨some 94, .load false 1 (.tmp 93), some (82, false), [28, 17]⟩, ⟨some 95, .bin .neq (.tmp 88) (.tmp 94), some (82, false), [23, 29, 17]⟩, op 96 (.pick (.tmp 82) (.const (.bool true)) (.tmp 95)) [17, 30],
 op 97 (.move (.tmp 96)) [31, 17], ⟨some 98, .fieldAddr 0 (.tmp 2), some (97, false), [32]⟩, ⟨some 99, .load false 1 (.tmp 98), some (97, false), [33, 32]⟩, ⟨some 100, .move (.tmp 5), some (97, false), [32]⟩,
 ⟨some 101, .indexAddr 4 (.tmp 99) (.tmp 100), some (97, false), [34, 35, 32]⟩, ⟨some 102, .fieldAddr 3 (.tmp 101), some (97, false), [36, 32]⟩, ⟨some 103, .load false 1 (.tmp 102), some (97, false), [37, 32]⟩, ⟨some 104, .fieldAddr 0 (.tmp 3), some (97, false), [32]⟩,
 ⟨some 105, .load false 1 (.tmp 104), some (97, false), [39, 32]⟩, ⟨some 106, .move (.tmp 5), some (97, false), [32]⟩, ⟨some 107, .indexAddr 4 (.tmp 105) (.tmp 106), some (97, false), [40, 41, 32]⟩, ⟨some 108, .fieldAddr 3 (.tmp 107), some (97, false), [42, 32]⟩,
 ⟨some 109, .load false 1 (.tmp 108), some (97, false), [43, 32]⟩, ⟨some 110, .bin .neq (.tmp 103) (.tmp 109), some (97, false), [38, 44, 32]⟩, op 111 (.pick (.tmp 97) (.const (.bool true)) (.tmp 110)) [32, 45]])
  (.cond (.tmp 111)
  (.seq (.region [od 4 (.move (.const (.bool false)))])
  .ret)
  .skip))))
  (.region [od 50 (.move (.tmp 5)), od 51 (.bin .add (.tmp 50) (ic 1)), od 5 (.move (.tmp 51))])))
abbrev f89_l1 : ACode :=
  (.seq (.seq (.region [od 112 (.move (.tmp 7)), od 113 (.fieldAddr 1 (.tmp 2)), od 114 (.load false 1 (.tmp 113)), od 115 (.len (.tmp 114)),
 od 116 (.bin .lss (.tmp 112) (.tmp 115))])
  (.cond (.tmp 116)
  .skip
  (.exit 2)))
  (.seq (.block 3 (.seq (.drawn [od 119 (.fieldAddr 1 (.tmp 2)), op 120 (.load false 1 (.tmp 119)) [0], od 121 (.move (.tmp 7)), op 122 (.indexAddr 5 (.tmp 120) (.tmp 121)) [1, 2],
 op 123 (.load true 5 (.tmp 122)) [3], od 124 (.fieldAddr 1 (.tmp 3)), op 125 (.load false 1 (.tmp 124)) [5], od 126 (.move (.tmp 7)),
 op 127 (.indexAddr 5 (.tmp 125) (.tmp 126)) [6, 7], op 128 (.load true 5 (.tmp 127)) [8], op 129 (.eqA true [1, 2, 2, 1, 1] (.tmp 123) (.tmp 128)) [4, 9]])
  (.cond (.tmp 129)
  (.seq (.region [od 4 (.move (.const (.bool false)))])
  .ret)
  .skip)))
  (.region [od 117 (.move (.tmp 7)), od 118 (.bin .add (.tmp 117) (ic 1)), od 7 (.move (.tmp 118))])))
abbrev f89_l2 : ACode :=
  (.seq (.seq (.region [od 130 (.move (.tmp 8)), od 131 (.fieldAddr 2 (.tmp 2)), od 132 (.load false 1 (.tmp 131)), od 133 (.len (.tmp 132)),
 od 134 (.bin .lss (.tmp 130) (.tmp 133))])
  (.cond (.tmp 134)
  .skip
  (.exit 4)))
  (.seq (.block 5 (.seq (.drawn [od 137 (.fieldAddr 2 (.tmp 2)), op 138 (.load false 1 (.tmp 137)) [0], od 139 (.move (.tmp 8)), op 140 (.indexAddr 8 (.tmp 138) (.tmp 139)) [1, 2],
 op 141 (.load true 8 (.tmp 140)) [3], od 142 (.fieldAddr 2 (.tmp 3)), op 143 (.load false 1 (.tmp 142)) [5], od 144 (.move (.tmp 8)),
 op 145 (.indexAddr 8 (.tmp 143) (.tmp 144)) [6, 7], op 146 (.load true 8 (.tmp 145)) [8], op 147 (.call 2368 false (fc 126) [(.tmp 141), (.tmp 146)]) [4, 9], op 9 (.move (.tmp 147)) ([10, 10] ++ rg 11)])
  (.seq (.region [od 148 (.move (.tmp 9)), od 149 (.un .not (.tmp 148))])
  (.cond (.tmp 149)
  (.seq (.region [od 4 (.move (.const (.bool false)))])
  .ret)
  .skip))))
  (.region [od 135 (.move (.tmp 8)), od 136 (.bin .add (.tmp 135) (ic 1)), od 8 (.move (.tmp 136))])))
abbrev f89_l3 : ACode :=
  (.seq (.seq (.region [od 150 (.move (.tmp 10)), od 151 (.fieldAddr 3 (.tmp 2)), od 152 (.load false 1 (.tmp 151)), od 153 (.len (.tmp 152)),
 od 154 (.bin .lss (.tmp 150) (.tmp 153))])
  (.cond (.tmp 154)
  .skip
  (.exit 6)))
  (.seq (.block 7 (.seq (.drawn [od 157 (.fieldAddr 3 (.tmp 2)), op 158 (.load false 1 (.tmp 157)) [0], od 159 (.move (.tmp 10)), op 160 (.indexAddr 7 (.tmp 158) (.tmp 159)) [1, 2],
 op 161 (.load true 7 (.tmp 160)) [3], od 162 (.fieldAddr 3 (.tmp 3)), op 163 (.load false 1 (.tmp 162)) [5], od 164 (.move (.tmp 10)),
 op 165 (.indexAddr 7 (.tmp 163) (.tmp 164)) [6, 7], op 166 (.load true 7 (.tmp 165)) [8], op 167 (.eqA true [1, 1, 1, 2, 2, 1, 1] (.tmp 161) (.tmp 166)) [4, 9]])
  (.cond (.tmp 167)
  (.seq (.region [od 4 (.move (.const (.bool false)))])
  .ret)
  .skip)))
  (.region [od 155 (.move (.tmp 10)), od 156 (.bin .add (.tmp 155) (ic 1)), od 10 (.move (.tmp 156))])))
def f89_b : ACode :=
  (.seq (.region [od 2 (.new 48 4 (.tmp 0)), od 3 (.new 64 4 (.tmp 1)), od 4 (.move (.const (.bool false)))])
  (.seq (.seq (.region [od 11 (.fieldAddr 0 (.tmp 2)), od 12 (.load false 1 (.tmp 11)), od 13 (.len (.tmp 12)), od 14 (.fieldAddr 0 (.tmp 3)),
 od 15 (.load false 1 (.tmp 14)), od 16 (.len (.tmp 15)), od 17 (.bin .neq (.tmp 13) (.tmp 16)), od 18 (.move (.tmp 17)),
 ⟨some 19, .fieldAddr 1 (.tmp 2), some (18, false), []⟩, ⟨some 20, .load false 1 (.tmp 19), some (18, false), []⟩, ⟨some 21, .len (.tmp 20), some (18, false), []⟩, ⟨some 22, .fieldAddr 1 (.tmp 3), some (18, false), []⟩,
 ⟨some 23, .load false 1 (.tmp 22), some (18, false), []⟩, ⟨some 24, .len (.tmp 23), some (18, false), []⟩, ⟨some 25, .bin .neq (.tmp 21) (.tmp 24), some (18, false), []⟩, od 26 (.pick (.tmp 18) (.const (.bool true)) (.tmp 25)),
 od 27 (.move (.tmp 26)), ⟨some 28, .fieldAddr 2 (.tmp 2), some (27, false), []⟩, ⟨some 29, .load false 1 (.tmp 28), some (27, false), []⟩, ⟨some 30, .len (.tmp 29), some (27, false), []⟩,
 ⟨some 31, .fieldAddr 2 (.tmp 3), some (27, false), []⟩, ⟨some 32, .load false 1 (.tmp 31), some (27, false), []⟩, ⟨some 33, .len (.tmp 32), some (27, false), []⟩, ⟨some 34, .bin .neq (.tmp 30) (.tmp 33), some (27, false), []⟩,
 od 35 (.pick (.tmp 27) (.const (.bool true)) (.tmp 34)), od 36 (.move (.tmp 35)), ⟨some 37, .fieldAddr 3 (.tmp 2), some (36, false), []⟩, ⟨some 38, .load false 1 (.tmp 37), some (36, false), []⟩,
 ⟨some 39, .len (.tmp 38), some (36, false), []⟩, ⟨some 40, .fieldAddr 3 (.tmp 3), some (36, false), []⟩, ⟨some 41, .load false 1 (.tmp 40), some (36, false), []⟩, ⟨some 42, .len (.tmp 41), some (36, false), []⟩,
 ⟨some 43, .bin .neq (.tmp 39) (.tmp 42), some (36, false), []⟩, od 44 (.pick (.tmp 36) (.const (.bool true)) (.tmp 43))])
  (.cond (.tmp 44)
  (.seq (.region [od 4 (.move (.const (.bool false)))])
  .ret)
  .skip))
  (.seq (.seq (.region [od 5 (.move (ic 0))])
  (.block 0 (.loop f89_l0)))
  (.seq (.seq (.region [od 7 (.move (ic 0))])
  (.block 2 (.loop f89_l1)))
  (.seq (.seq (.region [od 8 (.move (ic 0))])
  (.block 4 (.loop f89_l2)))
  (.seq (.seq (.region [od 10 (.move (ic 0))])
  (.block 6 (.loop f89_l3)))
  (.seq (.region [od 4 (.move (.const (.bool true)))])
  .ret)))))))
def f89 : AFunc := ⟨2, 168, [], [.tmp 4], f89_b⟩

/-! 90: hachure/hachureref15.Cost -/
def f90_b : ACode :=
  (.seq (.region [od 3 (.new 64 4 (.tmp 0)), od 6 (.move (ic 0))])
  (.seq (.region [od 9 (.load true 4 (.tmp 3)), od 10 (.move (.tmp 1)), od 11 (.call 192 false (fc 124) [(.tmp 9), (.tmp 10)]), od 7 (.move (.tmp 11))])
  (.seq (.region [od 12 (.load true 4 (.tmp 3)), od 13 (.move (.tmp 2)), od 14 (.call 240 false (fc 124) [(.tmp 12), (.tmp 13)]), od 8 (.move (.tmp 14))])
  (.seq (.seq (.region [od 15 (.move (.tmp 7)), od 16 (.bin .lss (.tmp 15) (ic 0)), od 17 (.move (.tmp 16)), ⟨some 18, .move (.tmp 8), some (17, false), []⟩,
 ⟨some 19, .bin .lss (.tmp 18) (ic 0), some (17, false), []⟩, od 20 (.pick (.tmp 17) (.const (.bool true)) (.tmp 19))])
  (.cond (.tmp 20)
  (.seq (.region [od 6 (.move (ic 0))])
  .ret)
  .skip))
  (.seq (.drawn [od 21 (.fieldAddr 3 (.tmp 3)), op 22 (.load false 1 (.tmp 21)) [0], od 23 (.move (.tmp 7)), op 24 (.indexAddr 7 (.tmp 22) (.tmp 23)) [1, 2],
 op 25 (.fieldAddr 1 (.tmp 24)) [3], op 26 (.load true 2 (.tmp 25)) [4], od 27 (.fieldAddr 3 (.tmp 3)), op 28 (.load false 1 (.tmp 27)) [6],
 od 29 (.move (.tmp 8)), op 30 (.indexAddr 7 (.tmp 28) (.tmp 29)) [7, 8], op 31 (.fieldAddr 1 (.tmp 30)) [9], op 32 (.load true 2 (.tmp 31)) [10],
 op 33 (.call 544 false (fc 128) [(.tmp 26), (.tmp 32)]) [5, 11], op 34 (.call 560 false (fc 127) [(.tmp 33)]) [12, 12], op 35 (.bin .quo (.tmp 34) (ic 4)) [13], op 6 (.move (.tmp 35)) ([14, 13] ++ rg 15)])
  .ret)))))
def f90 : AFunc := ⟨3, 36, [], [.tmp 6], f90_b⟩

/-! 91: hachure/hachureref15.All -/
abbrev f91_l0 : ACode :=
  (.seq (.seq (.drawn [od 44 (.move (.tmp 10)), od 45 (.move (.tmp 5)), op 46 (.len (.tmp 45)) [1], op 47 (.bin .lss (.tmp 44) (.tmp 46)) [0, 2],
 op 48 (.move (.tmp 47)) [3], ⟨some 49, .move (.tmp 5), some (48, true), [4]⟩, ⟨some 50, .move (.tmp 10), some (48, true), [4]⟩, ⟨some 51, .indexAddr 5 (.tmp 49) (.tmp 50), some (48, true), [5, 6, 4]⟩,
 ⟨some 52, .fieldAddr 2 (.tmp 51), some (48, true), [7, 4]⟩, ⟨some 53, .load false 1 (.tmp 52), some (48, true), [8, 4]⟩, ⟨some 54, .fieldAddr 0 (.tmp 7), some (48, true), [4]⟩, ⟨some 55, .load false 1 (.tmp 54), some (48, true), [10, 4]⟩,
 ⟨some 56, .bin .lss (.tmp 53) (.tmp 55), some (48, true), [9, 11, 4]⟩, op 57 (.pick (.tmp 48) (.tmp 56) (.const (.bool false))) [4, 12]])
  (.cond (.tmp 57)
  .skip
  (.exit 2)))
  (.block 3 (.region [od 58 (.move (.tmp 10)), od 59 (.bin .add (.tmp 58) (ic 1)), od 10 (.move (.tmp 59))])))
abbrev f91_l1 : ACode :=
  (.seq (.seq (.region [od 12 (.move (.tmp 6)), od 13 (.fieldAddr 3 (.tmp 2)), od 14 (.load false 1 (.tmp 13)), od 15 (.len (.tmp 14)),
 od 16 (.bin .lss (.tmp 12) (.tmp 15))])
  (.cond (.tmp 16)
  .skip
  (.exit 0)))
  (.seq (.block 1 (.seq (.region [od 19 (.fieldAddr 3 (.tmp 2)), od 20 (.load false 1 (.tmp 19)), od 21 (.move (.tmp 6)), od 22 (.indexAddr 7 (.tmp 20) (.tmp 21)),
 od 23 (.load true 7 (.tmp 22)), od 7 (.new 128 7 (.const (.agg [.int .i64 0, .int .i64 0, .int .i64 0, .str [], .str [], .int .i64 0, .int .i64 0]))), ow (.store true 7 (.tmp 7) (.tmp 23))])
  (.seq (.seq (.region [od 24 (.fieldAddr 6 (.tmp 7)), od 25 (.load false 1 (.tmp 24)), od 26 (.move (.tmp 1)), od 27 (.bin .neq (.tmp 25) (.tmp 26)),
 od 28 (.move (.tmp 27)), ⟨some 29, .load true 4 (.tmp 2), some (28, false), []⟩, ⟨some 30, .fieldAddr 0 (.tmp 7), some (28, false), []⟩, ⟨some 31, .load false 1 (.tmp 30), some (28, false), []⟩,
 ⟨some 32, .call 528 false (fc 124) [(.tmp 29), (.tmp 31)], some (28, false), []⟩, ⟨some 33, .move (.tmp 6), some (28, false), []⟩, ⟨some 34, .bin .neq (.tmp 32) (.tmp 33), some (28, false), []⟩, od 35 (.pick (.tmp 28) (.const (.bool true)) (.tmp 34))])
  (.cond (.tmp 35)
  (.exit 1)
  .skip))
  (.seq (.region [od 37 (.load true 4 (.tmp 2)), od 38 (.load true 7 (.tmp 7)), od 39 (.call 640 false (fc 129) [(.tmp 37), (.tmp 38)]), od 36 (.move (.tmp 39)),
 od 40 (.extract (.tmp 36) 0), od 41 (.extract (.tmp 36) 1), od 8 (.move (.tmp 40)), od 9 (.move (.tmp 41))])
  (.seq (.seq (.region [od 42 (.move (.tmp 9)), od 43 (.un .not (.tmp 42))])
  (.cond (.tmp 43)
  (.exit 1)
  .skip))
  (.seq (.region [od 10 (.move (ic 0))])
  (.seq (.block 2 (.loop f91_l0))
  (.seq (.drawn [od 60 (.load true 4 (.tmp 2)), od 61 (.fieldAddr 0 (.tmp 7)), op 62 (.load false 1 (.tmp 61)) [1], od 63 (.move (.tmp 8)),
 op 64 (.call 1040 false (fc 90) [(.tmp 60), (.tmp 62), (.tmp 63)]) [0, 2, 3], op 65 (.max [(ic 1), (.tmp 64)]) [4], od 66 (.fieldAddr 0 (.tmp 7)), op 67 (.load false 1 (.tmp 66)) [6],
 od 68 (.move (.tmp 8)), op 69 (.build [.int .i64 0, .int .i64 0, .int .i64 0, .int .i64 0, .int .i64 0] [(0, 1, (ic 4)), (1, 1, (.tmp 65)), (2, 1, (.tmp 67)), (3, 1, (.tmp 68))]) [5, 7, 8], od 11 (.new 192 5 (.const (.agg [.int .i64 0, .int .i64 0, .int .i64 0, .int .i64 0, .int .i64 0]))), ⟨none, .store true 5 (.tmp 11) (.tmp 69), none, ([10, 9, 4] ++ rg 11)⟩])
  (.drawn [od 70 (.buildSlice 1136 5 (.agg [.int .i64 0, .int .i64 0, .int .i64 0, .int .i64 0, .int .i64 0]) 0 []), od 71 (.move (.tmp 5)), od 72 (.move (.tmp 10)), op 73 (.slice 5 (.tmp 71) none (some (.tmp 72)) none) [1, 2],
 op 74 (.append 1200 5 3432621667003 (.tmp 70) (.tmp 73)) [0, 3], od 75 (.load true 5 (.tmp 11)), op 76 (.buildSlice 1232 5 (.agg [.int .i64 0, .int .i64 0, .int .i64 0, .int .i64 0, .int .i64 0]) 1 [(0, (.tmp 75))]) [5], op 77 (.append 1248 5 3432621667003 (.tmp 74) (.tmp 76)) [4, 6, 4],
 od 78 (.move (.tmp 5)), od 79 (.move (.tmp 10)), op 80 (.slice 5 (.tmp 78) (some (.tmp 79)) none none) [8, 9], op 81 (.append 1312 5 3432621667003 (.tmp 77) (.tmp 80)) [7, 10, 7],
 op 5 (.ren 97 (.tmp 81)) ([11, 11] ++ rg 12)])))))))))
  (.region [od 17 (.move (.tmp 6)), od 18 (.bin .add (.tmp 17) (ic 1)), od 6 (.move (.tmp 18))])))
def f91_b : ACode :=
  (.seq (.region [od 2 (.new 48 4 (.tmp 0)), od 4 (.move (.const (.lit 5 [])))])
  (.seq (.region [od 5 (.emptyBuf 97 5)])
  (.seq (.seq (.region [od 6 (.move (ic 0))])
  (.block 0 (.loop f91_l1)))
  (.seq (.region [od 82 (.move (.tmp 5)), od 4 (.move (.tmp 82))])
  .ret))))
def f91 : AFunc := ⟨2, 83, [], [.tmp 4], f91_b⟩

/-! 92: hachure/hachureref10.Copy -/
abbrev f92_l0 : ACode :=
  (.seq (.seq (.region [od 17 (.move (.tmp 4)), od 18 (.fieldAddr 0 (.tmp 1)), od 19 (.load false 1 (.tmp 18)), od 20 (.len (.tmp 19)),
 od 21 (.bin .lss (.tmp 17) (.tmp 20))])
  (.cond (.tmp 21)
  .skip
  (.exit 0)))
  (.seq (.block 1 (.seq (.region [od 24 (.fieldAddr 0 (.tmp 1)), od 25 (.load false 1 (.tmp 24)), od 26 (.move (.tmp 4)), od 27 (.indexAddr 4 (.tmp 25) (.tmp 26)),
 od 28 (.load true 4 (.tmp 27)), od 5 (.new 96 4 (.const (.agg [.int .i64 0, .lit 2 [], .int .i64 0, .int .i64 0]))), ow (.store true 4 (.tmp 5) (.tmp 28))])
  (.seq (.region [od 29 (.fieldAddr 1 (.tmp 5)), od 30 (.load false 1 (.tmp 29)), od 31 (.call 512 false (fc 130) [(.tmp 30)]), od 32 (.fieldAddr 1 (.tmp 5)),
 ow (.store false 1 (.tmp 32) (.tmp 31))])
  (.region [od 33 (.fieldAddr 0 (.tmp 3)), od 34 (.load false 1 (.tmp 33)), od 35 (.load true 4 (.tmp 5)), od 36 (.buildSlice 592 4 (.agg [.int .i64 0, .nils, .int .i64 0, .int .i64 0]) 1 [(0, (.tmp 35))]),
 od 37 (.append 66 4 2872193639704 (.tmp 34) (.tmp 36)), od 38 (.fieldAddr 0 (.tmp 3)), ow (.store false 1 (.tmp 38) (.tmp 37))]))))
  (.region [od 22 (.move (.tmp 4)), od 23 (.bin .add (.tmp 22) (ic 1)), od 4 (.move (.tmp 23))])))
abbrev f92_l1 : ACode :=
  (.seq (.seq (.region [od 39 (.move (.tmp 6)), od 40 (.fieldAddr 2 (.tmp 1)), od 41 (.load false 1 (.tmp 40)), od 42 (.len (.tmp 41)),
 od 43 (.bin .lss (.tmp 39) (.tmp 42))])
  (.cond (.tmp 43)
  .skip
  (.exit 2)))
  (.seq (.block 3 (.seq (.region [od 46 (.fieldAddr 2 (.tmp 1)), od 47 (.load false 1 (.tmp 46)), od 48 (.move (.tmp 6)), od 49 (.indexAddr 8 (.tmp 47) (.tmp 48)),
 od 50 (.load true 8 (.tmp 49)), od 7 (.new 128 8 (.const (.agg [.int .i64 0, .lit 2 [], .int .i64 0, .str [], .str [], .bool false, .int .i64 0, .int .i64 0]))), ow (.store true 8 (.tmp 7) (.tmp 50))])
  (.seq (.region [od 51 (.fieldAddr 1 (.tmp 7)), od 52 (.load false 1 (.tmp 51)), od 53 (.call 864 false (fc 130) [(.tmp 52)]), od 54 (.fieldAddr 1 (.tmp 7)),
 ow (.store false 1 (.tmp 54) (.tmp 53))])
  (.region [od 55 (.fieldAddr 2 (.tmp 3)), od 56 (.load false 1 (.tmp 55)), od 57 (.load true 8 (.tmp 7)), od 58 (.buildSlice 944 8 (.agg [.int .i64 0, .nils, .int .i64 0, .str [], .str [], .bool false, .int .i64 0, .int .i64 0]) 1 [(0, (.tmp 57))]),
 od 59 (.append 68 8 1450901941607 (.tmp 56) (.tmp 58)), od 60 (.fieldAddr 2 (.tmp 3)), ow (.store false 1 (.tmp 60) (.tmp 59))]))))
  (.region [od 44 (.move (.tmp 6)), od 45 (.bin .add (.tmp 44) (ic 1)), od 6 (.move (.tmp 45))])))
def f92_b : ACode :=
  (.seq (.region [od 1 (.new 32 4 (.tmp 0)), od 2 (.new 48 4 (.const (.agg [.lit 4 [], .lit 5 [], .lit 8 [], .lit 7 []])))])
  (.seq (.drawn [od 8 (.buildSlice 144 5 (.agg [.int .i64 0, .str [], .str [], .int .i64 0, .int .i64 0]) 0 []), od 9 (.fieldAddr 1 (.tmp 1)), op 10 (.load false 1 (.tmp 9)) [1], op 11 (.append 192 5 2469078742875 (.tmp 8) (.tmp 10)) [0, 2],
 od 12 (.buildSlice 208 7 (.agg [.int .i64 0, .int .i64 0, .int .i64 0, .str [], .str [], .int .i64 0, .int .i64 0]) 0 []), od 13 (.fieldAddr 3 (.tmp 1)), op 14 (.load false 1 (.tmp 13)) [5], op 15 (.append 256 7 1927910799188 (.tmp 12) (.tmp 14)) [4, 6, 3],
 op 16 (.build [.nils, .lit 5 [], .nils, .lit 7 []] [(1, 1, (.tmp 11)), (3, 1, (.tmp 15))]) [3, 7], od 3 (.new 64 4 (.const (.agg [.nils, .lit 5 [], .nils, .lit 7 []]))), ⟨none, .store true 4 (.tmp 3) (.tmp 16), none, ([9, 8, 7] ++ rg 10)⟩])
  (.seq (.seq (.region [od 4 (.move (ic 0))])
  (.block 0 (.loop f92_l0)))
  (.seq (.seq (.region [od 6 (.move (ic 0))])
  (.block 2 (.loop f92_l1)))
  (.seq (.region [od 61 (.load true 4 (.tmp 3)), ow (.store true 4 (.tmp 2) (.tmp 61))])
  .ret)))))
def f92 : AFunc := ⟨1, 62, [], [.cell 2 true 4], f92_b⟩

/-! 93: hachure/hachureref01.Mod -/
def f93_b : ACode :=
  (.seq (.region [od 4 (.move (ic 0))])
  (.seq (.region [od 5 (.move (.tmp 0)), od 6 (.move (.tmp 1)), od 7 (.bin .rem (.tmp 5) (.tmp 6)), od 8 (.move (.tmp 1)),
 od 9 (.bin .add (.tmp 7) (.tmp 8)), od 10 (.move (.tmp 1)), od 11 (.bin .rem (.tmp 9) (.tmp 10)), od 4 (.move (.tmp 11))])
  .ret))
def f93 : AFunc := ⟨2, 12, [], [.tmp 4], f93_b⟩

/-! 94: hachure/hachureref07.Odd -/
abbrev f94_l0 : ACode :=
  (.seq (.seq (.region [od 18 (.move (.tmp 9)), od 19 (.move (.tmp 0)), od 20 (.len (.tmp 19)), od 21 (.bin .lss (.tmp 18) (.tmp 20))])
  (.cond (.tmp 21)
  .skip
  (.exit 0)))
  (.seq (.block 1 (.seq (.region [od 24 (.move (.tmp 0)), od 25 (.move (.tmp 9)), od 26 (.indexAddr 4 (.tmp 24) (.tmp 25)), od 27 (.load true 4 (.tmp 26)),
 od 10 (.new 176 4 (.const (.agg [.int .i64 0, .lit 2 [], .int .i64 0, .int .i64 0]))), ow (.store true 4 (.tmp 10) (.tmp 27))])
  (.seq (.region [od 28 (.buildSliceD 9 16000464 2 (.agg [.int .i64 0, .int .i64 0]) 0 []), od 29 (.fieldAddr 1 (.tmp 10)), od 30 (.load false 1 (.tmp 29)), od 31 (.append 512 2 8278675785407 (.tmp 28) (.tmp 30)),
 od 32 (.fieldAddr 1 (.tmp 10)), ow (.store false 1 (.tmp 32) (.tmp 31))])
  (.region [od 33 (.move (.tmp 8)), od 34 (.load true 4 (.tmp 10)), od 35 (.buildSliceK 576 4 (.agg [.int .i64 0, .nils, .int .i64 0, .int .i64 0]) 1 [(0, (.tmp 34))]), od 36 (.appendK 145 4 2872193639704 (.tmp 33) (.tmp 35)),
 od 8 (.ren 145 (.tmp 36))]))))
  (.region [od 22 (.move (.tmp 9)), od 23 (.bin .add (.tmp 22) (ic 1)), od 9 (.move (.tmp 23))])))
abbrev f94_l1 : ACode :=
  (.seq (.seq (.region [od 249 (.move (.tmp 17)), od 250 (.move (.tmp 8)), od 251 (.move (.tmp 16)), od 252 (.indexAddr 4 (.tmp 250) (.tmp 251)),
 od 253 (.fieldAddr 1 (.tmp 252)), od 254 (.load false 1 (.tmp 253)), od 255 (.len (.tmp 254)), od 256 (.bin .lss (.tmp 249) (.tmp 255))])
  (.cond (.tmp 256)
  .skip
  (.exit 5)))
  (.seq (.block 6 (.drawn [od 259 (.move (.tmp 8)), od 260 (.move (.tmp 16)), op 261 (.indexAddr 4 (.tmp 259) (.tmp 260)) [0, 1], op 262 (.fieldAddr 1 (.tmp 261)) [2],
 op 263 (.load false 1 (.tmp 262)) [3], od 264 (.move (.tmp 17)), od 265 (.move (.tmp 8)), od 266 (.move (.tmp 16)),
 op 267 (.indexAddr 4 (.tmp 265) (.tmp 266)) [6, 7], op 268 (.fieldAddr 1 (.tmp 267)) [8], op 269 (.load false 1 (.tmp 268)) [9], od 270 (.move (.tmp 17)),
 op 271 (.indexAddr 2 (.tmp 269) (.tmp 270)) [10, 11], op 272 (.fieldAddr 1 (.tmp 271)) [12], op 273 (.load false 1 (.tmp 272)) [13], od 274 (.move (.tmp 12)),
 op 275 (.bin .rem (.tmp 274) (ic 2)) [15], op 276 (.bin .mul (.tmp 275) (ic 39)) [16], op 277 (.bin .add (ic 1) (.tmp 276)) [17], op 278 (.bin .mul (.tmp 273) (.tmp 277)) [14, 18],
 op 279 (.indexAddr 2 (.tmp 263) (.tmp 264)) ([4, 5] ++ rg 20), op 280 (.fieldAddr 1 (.tmp 279)) ([20] ++ rg 20), ⟨none, .store false 1 (.tmp 280) (.tmp 278), none, ([21, 19] ++ rg 20)⟩]))
  (.region [od 257 (.move (.tmp 17)), od 258 (.bin .add (.tmp 257) (ic 1)), od 17 (.move (.tmp 258))])))
abbrev f94_l2 : ACode :=
  (.seq (.seq (.region [od 243 (.move (.tmp 16)), od 244 (.move (.tmp 8)), od 245 (.len (.tmp 244)), od 246 (.bin .lss (.tmp 243) (.tmp 245))])
  (.cond (.tmp 246)
  .skip
  (.exit 3)))
  (.seq (.block 4 (.seq (.region [od 17 (.move (ic 0))])
  (.block 5 (.loop f94_l1))))
  (.region [od 247 (.move (.tmp 16)), od 248 (.bin .add (.tmp 247) (ic 1)), od 16 (.move (.tmp 248))])))
def f94_b : ACode :=
  (.seq (.region [od 5 (.new 96 3 (.tmp 2)), od 6 (.deep (.const (.nils))), od 7 (.emptyBuf 129 5)])
  (.seq (.region [od 8 (.emptyBuf 145 4)])
  (.seq (.seq (.region [od 9 (.move (ic 0))])
  (.block 0 (.loop f94_l0)))
  (.seq (.region [od 37 (.buildSlice 608 5 (.agg [.int .i64 0, .str [], .str [], .int .i64 0, .int .i64 0]) 0 []), od 38 (.move (.tmp 1)), od 39 (.append 640 5 2469078742875 (.tmp 37) (.tmp 38)), od 11 (.ren 193 (.tmp 39))])
  (.seq (.seq (.region [od 40 (.move (.tmp 8)), od 41 (.len (.tmp 40)), od 42 (.bin .eql (.tmp 41) (ic 0))])
  (.cond (.tmp 42)
  (.seq (.region [od 43 (.move (.tmp 8)), od 44 (.move (.tmp 11)), od 6 (.deep (.tmp 43)), od 7 (.move (.tmp 44))])
  .ret)
  .skip))
  (.seq (.region [od 45 (.indexArr 3 1 (.tmp 5) (ic 1)), od 46 (.load false 1 (.tmp 45)), od 47 (.call 768 false (fc 93) [(.tmp 46), (ic 40)]), od 12 (.move (.tmp 47))])
  (.seq (.region [od 48 (.indexArr 3 1 (.tmp 5) (ic 2)), od 49 (.load false 1 (.tmp 48)), od 50 (.move (.tmp 8)), od 51 (.len (.tmp 50)),
 od 52 (.call 848 false (fc 93) [(.tmp 49), (.tmp 51)]), od 13 (.move (.tmp 52))])
  (.seq (.region [od 53 (.move (.tmp 8)), od 54 (.move (.tmp 13)), od 55 (.indexAddr 4 (.tmp 53) (.tmp 54)), od 14 (.move (.tmp 55))])
  (.seq (.seq (.region [od 56 (.indexArr 3 1 (.tmp 5) (ic 0)), od 57 (.load false 1 (.tmp 56)), od 58 (.call 944 false (fc 93) [(.tmp 57), (ic 13)])])
  (.block 2 (.seq (.region [od 60 (.bin .eql (.tmp 58) (ic 0)), od 59 (.move (.tmp 60))])
  (.cond (.tmp 59)
  (.region [od 61 (.move (.tmp 14)), od 62 (.move (.tmp 12)), od 63 (.bin .sub (.tmp 62) (ic 1)), od 64 (.nilCheck (.tmp 61)),
 od 65 (.fieldAddr 0 (.tmp 64)), ow (.store false 1 (.tmp 65) (.tmp 63))])
  (.seq (.region [od 67 (.bin .eql (.tmp 58) (ic 1)), od 66 (.move (.tmp 67))])
  (.cond (.tmp 66)
  (.region [od 68 (.move (.tmp 14)), od 69 (.move (.tmp 12)), od 70 (.nilCheck (.tmp 68)), od 71 (.fieldAddr 2 (.tmp 70)),
 ow (.store false 1 (.tmp 71) (.tmp 69))])
  (.seq (.region [od 73 (.bin .eql (.tmp 58) (ic 2)), od 72 (.move (.tmp 73))])
  (.cond (.tmp 72)
  (.region [od 74 (.move (.tmp 14)), od 75 (.buildSlice 1216 1 (.int .i64 0) 4 [(0, (ic 0)), (1, (ic 21)), (2, (ic 22)), (3, (ic 28))]), od 76 (.move (.tmp 12)), od 77 (.bin .rem (.tmp 76) (ic 4)),
 od 78 (.indexAddr 1 (.tmp 75) (.tmp 77)), od 79 (.load false 1 (.tmp 78)), od 80 (.nilCheck (.tmp 74)), od 81 (.fieldAddr 3 (.tmp 80)),
 ow (.store false 1 (.tmp 81) (.tmp 79))])
  (.seq (.region [od 83 (.bin .eql (.tmp 58) (ic 3)), od 82 (.move (.tmp 83))])
  (.cond (.tmp 82)
  (.drawn [od 84 (.move (.tmp 14)), od 85 (.move (.tmp 14)), od 86 (.move (.tmp 14)), op 87 (.nilCheck (.tmp 86)) [2],
 op 88 (.fieldAddr 3 (.tmp 87)) [3], op 89 (.load false 1 (.tmp 88)) [4], od 90 (.move (.tmp 14)), op 91 (.nilCheck (.tmp 90)) [6],
 op 92 (.fieldAddr 2 (.tmp 91)) [7], op 93 (.load false 1 (.tmp 92)) [8], op 94 (.nilCheck (.tmp 84)) [0, 0, 2, 3, 4, 5, 9], op 95 (.fieldAddr 2 (.tmp 94)) [10, 0, 2, 3, 4, 5, 9],
 ⟨none, .store false 1 (.tmp 95) (.tmp 89), none, [11, 5, 0, 2, 3, 4, 5, 9]⟩, op 96 (.nilCheck (.tmp 85)) ([1] ++ rg 13), op 97 (.fieldAddr 3 (.tmp 96)) ([13] ++ rg 13), ⟨none, .store false 1 (.tmp 97) (.tmp 93), none, ([14, 9, 12] ++ rg 13)⟩])
  (.seq (.region [od 99 (.bin .eql (.tmp 58) (ic 4)), od 98 (.move (.tmp 99))])
  (.cond (.tmp 98)
  (.seq (.region [od 100 (.move (.tmp 14)), od 101 (.nilCheck (.tmp 100)), od 102 (.fieldAddr 1 (.tmp 101)), od 103 (.load false 1 (.tmp 102)),
 od 104 (.len (.tmp 103)), od 105 (.bin .gtr (.tmp 104) (ic 0))])
  (.cond (.tmp 105)
  (.drawn [od 106 (.move (.tmp 14)), op 107 (.nilCheck (.tmp 106)) [0], op 108 (.fieldAddr 1 (.tmp 107)) [1], op 109 (.load false 1 (.tmp 108)) [2],
 od 110 (.move (.tmp 12)), od 111 (.move (.tmp 14)), op 112 (.nilCheck (.tmp 111)) [5], op 113 (.fieldAddr 1 (.tmp 112)) [6],
 op 114 (.load false 1 (.tmp 113)) [7], op 115 (.len (.tmp 114)) [8], op 116 (.bin .rem (.tmp 110) (.tmp 115)) [4, 9], od 117 (.move (.tmp 14)),
 op 118 (.nilCheck (.tmp 117)) [11], op 119 (.fieldAddr 1 (.tmp 118)) [12], op 120 (.load false 1 (.tmp 119)) [13], od 121 (.move (.tmp 12)),
 od 122 (.move (.tmp 14)), op 123 (.nilCheck (.tmp 122)) [16], op 124 (.fieldAddr 1 (.tmp 123)) [17], op 125 (.load false 1 (.tmp 124)) [18],
 op 126 (.len (.tmp 125)) [19], op 127 (.bin .rem (.tmp 121) (.tmp 126)) [15, 20], op 128 (.indexAddr 2 (.tmp 120) (.tmp 127)) [14, 21], op 129 (.fieldAddr 0 (.tmp 128)) [22],
 op 130 (.load false 1 (.tmp 129)) [23], od 131 (.move (.tmp 12)), op 132 (.bin .mul (ic 3) (.tmp 131)) [25], op 133 (.bin .add (.tmp 130) (.tmp 132)) [24, 26],
 op 134 (.bin .sub (.tmp 133) (ic 50)) [27], op 135 (.indexAddr 2 (.tmp 109) (.tmp 116)) ([3, 10] ++ rg 29), op 136 (.fieldAddr 0 (.tmp 135)) ([29] ++ rg 29), ⟨none, .store false 1 (.tmp 136) (.tmp 134), none, ([30, 28] ++ rg 29)⟩])
  .skip))
  (.seq (.region [od 138 (.bin .eql (.tmp 58) (ic 5)), od 137 (.move (.tmp 138))])
  (.cond (.tmp 137)
  (.seq (.region [od 139 (.move (.tmp 14)), od 140 (.nilCheck (.tmp 139)), od 141 (.fieldAddr 1 (.tmp 140)), od 142 (.load false 1 (.tmp 141)),
 od 143 (.len (.tmp 142)), od 144 (.bin .gtr (.tmp 143) (ic 0))])
  (.cond (.tmp 144)
  (.drawn [od 145 (.move (.tmp 14)), op 146 (.nilCheck (.tmp 145)) [0], op 147 (.fieldAddr 1 (.tmp 146)) [1], op 148 (.load false 1 (.tmp 147)) [2],
 od 149 (.move (.tmp 12)), od 150 (.move (.tmp 14)), op 151 (.nilCheck (.tmp 150)) [5], op 152 (.fieldAddr 1 (.tmp 151)) [6],
 op 153 (.load false 1 (.tmp 152)) [7], op 154 (.len (.tmp 153)) [8], op 155 (.bin .rem (.tmp 149) (.tmp 154)) [4, 9], od 156 (.move (.tmp 12)),
 op 157 (.bin .rem (.tmp 156) (ic 2)) [11], op 158 (.bin .add (ic 16384) (.tmp 157)) [12], od 159 (.move (.tmp 12)), op 160 (.build [.int .i64 0, .int .i64 0] [(0, 1, (.tmp 158)), (1, 1, (.tmp 159))]) [13, 14],
 op 161 (.indexAddr 2 (.tmp 148) (.tmp 155)) ([3, 10] ++ rg 16), ⟨none, .store true 2 (.tmp 161) (.tmp 160), none, ([16, 15] ++ rg 16)⟩])
  .skip))
  (.seq (.region [od 163 (.bin .eql (.tmp 58) (ic 6)), od 162 (.move (.tmp 163))])
  (.cond (.tmp 162)
  (.drawn [od 164 (.move (.tmp 14)), od 165 (.move (.tmp 14)), op 166 (.nilCheck (.tmp 165)) [1], op 167 (.fieldAddr 1 (.tmp 166)) [2],
 op 168 (.load false 1 (.tmp 167)) [3], od 169 (.move (.tmp 12)), od 170 (.move (.tmp 14)), op 171 (.nilCheck (.tmp 170)) [6],
 op 172 (.fieldAddr 1 (.tmp 171)) [7], op 173 (.load false 1 (.tmp 172)) [8], op 174 (.len (.tmp 173)) [9], op 175 (.min [(.tmp 169), (.tmp 174)]) [5, 10],
 op 176 (.slice 2 (.tmp 168) none (some (.tmp 175)) none) [4, 11], op 177 (.nilCheck (.tmp 164)) ([0] ++ rg 13), op 178 (.fieldAddr 1 (.tmp 177)) ([13] ++ rg 13), ⟨none, .store false 1 (.tmp 178) (.tmp 176), none, ([14, 12] ++ rg 13)⟩])
  (.seq (.region [od 180 (.bin .eql (.tmp 58) (ic 7)), od 179 (.move (.tmp 180))])
  (.cond (.tmp 179)
  (.drawn [od 181 (.move (.tmp 8)), od 182 (.move (.tmp 13)), op 183 (.slice 4 (.tmp 181) none (some (.tmp 182)) none) [0, 1], od 184 (.move (.tmp 8)),
 od 185 (.move (.tmp 13)), op 186 (.bin .add (.tmp 185) (ic 1)) [4], op 187 (.slice 4 (.tmp 184) (some (.tmp 186)) none none) [3, 5], op 188 (.appendK 3024 4 2872193639704 (.tmp 183) (.tmp 187)) [2, 6],
 op 8 (.ren 145 (.tmp 188)) ([7, 7] ++ rg 8)])
  (.seq (.region [od 190 (.bin .eql (.tmp 58) (ic 8)), od 189 (.move (.tmp 190))])
  (.cond (.tmp 189)
  (.region [od 191 (.move (.tmp 8)), od 192 (.move (.tmp 13)), od 193 (.move (.tmp 14)), od 194 (.nilCheck (.tmp 193)),
 od 195 (.load true 4 (.tmp 194)), od 196 (.call 3152 false (fc 131) [(.tmp 195)]), od 197 (.indexAddr 4 (.tmp 191) (.tmp 192)), ow (.store true 4 (.tmp 197) (.tmp 196))])
  (.seq (.region [od 199 (.bin .eql (.tmp 58) (ic 9)), od 198 (.move (.tmp 199))])
  (.cond (.tmp 198)
  (.region [od 200 (.move (.tmp 11)), od 201 (.move (.tmp 12)), od 202 (.bin .rem (.tmp 201) (ic 4)), od 203 (.move (.tmp 11)),
 od 204 (.len (.tmp 203)), od 205 (.min [(.tmp 202), (.tmp 204)]), od 206 (.slice 5 (.tmp 200) none (some (.tmp 205)) none), od 11 (.move (.tmp 206))])
  (.seq (.region [od 208 (.bin .eql (.tmp 58) (ic 10)), od 207 (.move (.tmp 208))])
  (.cond (.tmp 207)
  (.region [od 209 (.move (.tmp 11)), od 210 (.move (.tmp 12)), od 211 (.bin .sub (.tmp 210) (ic 1)), od 212 (.build [.int .i64 0, .str [], .str [], .int .i64 0, .int .i64 0] [(0, 1, (.tmp 211))]),
 od 213 (.buildSlice 3424 5 (.agg [.int .i64 0, .str [], .str [], .int .i64 0, .int .i64 0]) 1 [(0, (.tmp 212))]), od 214 (.append 193 5 2469078742875 (.tmp 209) (.tmp 213)), od 11 (.ren 193 (.tmp 214))])
  (.seq (.region [od 216 (.bin .eql (.tmp 58) (ic 11)), od 215 (.move (.tmp 216))])
  (.cond (.tmp 215)
  (.seq (.region [od 217 (.move (.tmp 12)), od 218 (.bin .mul (ic 10) (.tmp 217)), od 219 (.build [.int .i64 0, .int .i64 0] [(0, 1, (.tmp 218)), (1, 1, (ic 90))]), od 15 (.new 256 2 (.const (.agg [.int .i64 0, .int .i64 0]))),
 ow (.store true 2 (.tmp 15) (.tmp 219))])
  (.drawn [od 220 (.move (.tmp 8)), od 221 (.move (.tmp 12)), op 222 (.bin .add (ic 50) (.tmp 221)) [1], od 223 (.load true 2 (.tmp 15)),
 od 224 (.fieldAddr 0 (.tmp 15)), op 225 (.load false 1 (.tmp 224)) [4], op 226 (.bin .add (.tmp 225) (ic 5)) [5], op 227 (.build [.int .i64 0, .int .i64 0] [(0, 1, (.tmp 226)), (1, 1, (ic 90))]) [6],
 od 228 (.fieldAddr 0 (.tmp 15)), op 229 (.load false 1 (.tmp 228)) [8], op 230 (.build [.int .i64 0, .int .i64 0] [(0, 1, (.tmp 229)), (1, 1, (ic 95))]) [9], od 231 (.load true 2 (.tmp 15)),
 op 232 (.buildSlice 3728 2 (.agg [.int .i64 0, .int .i64 0]) 4 [(0, (.tmp 223)), (1, (.tmp 227)), (2, (.tmp 230)), (3, (.tmp 231))]) [3, 7, 10, 11], od 233 (.buildSlice 3744 1 (.int .i64 0) 3 [(0, (ic 0)), (1, (ic 22)), (2, (ic 28))]), od 234 (.move (.tmp 12)), op 235 (.bin .rem (.tmp 234) (ic 3)) [14],
 op 236 (.indexAddr 1 (.tmp 233) (.tmp 235)) [13, 15], op 237 (.load false 1 (.tmp 236)) [16], op 238 (.build [.int .i64 0, .lit 2 [], .int .i64 0, .int .i64 0] [(0, 1, (.tmp 222)), (1, 1, (.tmp 232)), (2, 1, (ic 21)), (3, 1, (.tmp 237))]) [2, 12, 17], op 239 (.buildSlice 3840 4 (.agg [.int .i64 0, .nils, .int .i64 0, .int .i64 0]) 1 [(0, (.tmp 238))]) [18],
 op 240 (.append 145 4 2872193639704 (.tmp 220) (.tmp 239)) [0, 19], op 8 (.ren 145 (.tmp 240)) ([20, 20] ++ rg 21)]))
  (.seq (.region [od 242 (.bin .eql (.tmp 58) (ic 12)), od 241 (.move (.tmp 242))])
  (.cond (.tmp 241)
  (.seq (.region [od 16 (.move (ic 0))])
  (.block 3 (.loop f94_l2)))
  .skip))))))))))))))))))))))))))))
  (.seq (.region [od 281 (.move (.tmp 8)), od 282 (.move (.tmp 11)), od 6 (.deep (.tmp 281)), od 7 (.move (.tmp 282))])
  .ret))))))))))
def f94 : AFunc := ⟨3, 283, [], [.tmp 6, .tmp 7], f94_b⟩

/-! 95: hachure/hachureref10.text -/
def f95_b : ACode :=
  (.seq (.region [od 2 (.move (.const (.str [])))])
  (.seq (.region [od 3 (.buildSlice 64 1 (.str []) 10 [(0, (.const (.str []))), (1, (.const (.str [77, 111, 111, 114]))), (2, (.const (.str [71, 97, 116, 101]))), (3, (.const (.str [120, 32, 121]))), (4, (.const (.str [32, 120]))), (5, (.const (.str [120, 32]))), (6, (.const (.str [97, 34, 98]))), (7, (.const (.str [97, 98, 99, 100, 101, 102, 103, 104, 105, 106, 107, 108, 109, 110, 111, 112, 113, 114, 115, 116, 117, 118, 119, 120, 121]))), (8, (.const (.str [65]))), (9, (.const (.str [31])))]), od 4 (.move (.tmp 0)), od 5 (.bin .rem (.tmp 4) (ic 10)), od 6 (.indexAddr 1 (.tmp 3) (.tmp 5)),
 od 7 (.load false 1 (.tmp 6)), od 2 (.move (.tmp 7))])
  .ret))
def f95 : AFunc := ⟨1, 8, [], [.tmp 2], f95_b⟩

/-! 15: hachure/gather.both -/
def f15_b : ACode :=
  (.seq (.region [od 3 (.new 64 4 (.tmp 0)), od 6 (.move (ic 0)), od 7 (.move (ic 0)), od 8 (.move (.const (.bool false)))])
  (.seq (.drawn [od 11 (.load true 4 (.tmp 3)), od 12 (.move (.tmp 1)), op 13 (.call 224 false (fc 19) [(.tmp 11), (.tmp 12)]) [0, 1], od 14 (.load true 4 (.tmp 3)),
 od 15 (.move (.tmp 2)), op 16 (.call 272 false (fc 19) [(.tmp 14), (.tmp 15)]) [3, 4, 2], op 9 (.move (.tmp 13)) [2, 5, 0, 1, 2], op 10 (.move (.tmp 16)) ([5, 6] ++ rg 7)])
  (.seq (.region [od 17 (.move (.tmp 9)), od 18 (.move (.tmp 10)), od 19 (.move (.tmp 9)), od 20 (.bin .geq (.tmp 19) (ic 0)),
 od 21 (.move (.tmp 20)), ⟨some 22, .move (.tmp 10), some (21, true), []⟩, ⟨some 23, .bin .geq (.tmp 22) (ic 0), some (21, true), []⟩, od 24 (.pick (.tmp 21) (.tmp 23) (.const (.bool false))),
 od 6 (.move (.tmp 17)), od 7 (.move (.tmp 18)), od 8 (.move (.tmp 24))])
  .ret)))
def f15 : AFunc := ⟨3, 25, [], [.tmp 6, .tmp 7, .tmp 8], f15_b⟩

/-! 27: hachure/exact.Sqrt -/
abbrev f27_l0 : ACode :=
  (.seq (.seq (.region [od 11 (.move (.tmp 3)), od 12 (.move (.tmp 3)), od 13 (.bin .mul (.tmp 11) (.tmp 12)), od 14 (.move (.tmp 0)),
 od 15 (.bin .gtr (.tmp 13) (.tmp 14))])
  (.cond (.tmp 15)
  .skip
  (.exit 0)))
  (.block 1 (.region [od 16 (.move (.tmp 3)), od 17 (.bin .sub (.tmp 16) (ic 1)), od 3 (.move (.tmp 17))])))
abbrev f27_l1 : ACode :=
  (.seq (.seq (.region [od 18 (.move (.tmp 3)), od 19 (.bin .lss (.tmp 18) (ic 3037000499)), od 20 (.move (.tmp 19)), ⟨some 21, .move (.tmp 3), some (20, true), []⟩,
 ⟨some 22, .bin .add (.tmp 21) (ic 1), some (20, true), []⟩, ⟨some 23, .move (.tmp 3), some (20, true), []⟩, ⟨some 24, .bin .add (.tmp 23) (ic 1), some (20, true), []⟩, ⟨some 25, .bin .mul (.tmp 22) (.tmp 24), some (20, true), []⟩,
 ⟨some 26, .move (.tmp 0), some (20, true), []⟩, ⟨some 27, .bin .leq (.tmp 25) (.tmp 26), some (20, true), []⟩, od 28 (.pick (.tmp 20) (.tmp 27) (.const (.bool false)))])
  (.cond (.tmp 28)
  .skip
  (.exit 2)))
  (.block 3 (.region [od 29 (.move (.tmp 3)), od 30 (.bin .add (.tmp 29) (ic 1)), od 3 (.move (.tmp 30))])))
def f27_b : ACode :=
  (.seq (.region [od 2 (.move (ic 0))])
  (.seq (.seq (.region [od 4 (.move (.tmp 0)), od 5 (.bin .leq (.tmp 4) (ic 0))])
  (.cond (.tmp 5)
  (.seq (.region [od 2 (.move (ic 0))])
  .ret)
  .skip))
  (.seq (.region [od 6 (.move (.tmp 0)), od 7 (.convIF (.tmp 6)), od 8 (.call 144 false (fc 41) [(.tmp 7)]), od 9 (.convFI .i64 (.tmp 8)),
 od 10 (.min [(.tmp 9), (ic 3037000499)]), od 3 (.move (.tmp 10))])
  (.seq (.block 0 (.loop f27_l0))
  (.seq (.block 2 (.loop f27_l1))
  (.seq (.region [od 31 (.move (.tmp 3)), od 2 (.move (.tmp 31))])
  .ret))))))
def f27 : AFunc := ⟨1, 32, [], [.tmp 2], f27_b⟩

/-! 24: hachure/gather.square -/
def f24_b : ACode :=
  (.seq (.region [od 2 (.new 48 2 (.tmp 0)), od 3 (.new 64 2 (.tmp 1)), od 4 (.move (ic 0))])
  (.seq (.region [od 6 (.load true 2 (.tmp 2)), od 7 (.load true 2 (.tmp 3)), od 8 (.call 144 false (fc 37) [(.tmp 6), (.tmp 7)]), od 5 (.new 96 2 (.const (.agg [.int .i64 0, .int .i64 0]))),
 ow (.store true 2 (.tmp 5) (.tmp 8))])
  (.seq (.region [od 9 (.load true 2 (.tmp 5)), od 10 (.load true 2 (.tmp 5)), od 11 (.call 192 false (fc 38) [(.tmp 9), (.tmp 10)]), od 4 (.move (.tmp 11))])
  .ret)))
def f24 : AFunc := ⟨2, 12, [], [.tmp 4], f24_b⟩

/-! 16: hachure/gather.copied -/
abbrev f16_l0 : ACode :=
  (.seq (.region [od 23 (.bin .lss (.tmp 22) (.tmp 21))])
  (.seq (.cond (.tmp 23)
  .skip
  (.exit 0))
  (.seq (.block 1 (.seq (.region [od 24 (.move (.tmp 22)), od 4 (.move (.tmp 24))])
  (.drawn [od 25 (.fieldAddr 0 (.tmp 3)), op 26 (.load false 1 (.tmp 25)) [0], od 27 (.move (.tmp 4)), od 28 (.fieldAddr 0 (.tmp 3)),
 op 29 (.load false 1 (.tmp 28)) [3], od 30 (.move (.tmp 4)), op 31 (.indexAddr 4 (.tmp 29) (.tmp 30)) [4, 5], op 32 (.fieldAddr 1 (.tmp 31)) [6],
 op 33 (.load false 1 (.tmp 32)) [7], op 34 (.call 560 false (fc 32) [(.tmp 33)]) [8], op 35 (.indexAddr 4 (.tmp 26) (.tmp 27)) ([1, 2] ++ rg 10), op 36 (.fieldAddr 1 (.tmp 35)) ([10] ++ rg 10),
 ⟨none, .store false 1 (.tmp 36) (.tmp 34), none, ([11, 9, 9] ++ rg 10)⟩])))
  (.region [od 37 (.bin .add (.tmp 22) (ic 1)), od 22 (.move (.tmp 37))]))))
abbrev f16_l1 : ACode :=
  (.seq (.region [od 42 (.bin .lss (.tmp 41) (.tmp 40))])
  (.seq (.cond (.tmp 42)
  .skip
  (.exit 2))
  (.seq (.block 3 (.seq (.region [od 43 (.move (.tmp 41)), od 5 (.move (.tmp 43))])
  (.drawn [od 44 (.fieldAddr 2 (.tmp 3)), op 45 (.load false 1 (.tmp 44)) [0], od 46 (.move (.tmp 5)), od 47 (.fieldAddr 2 (.tmp 3)),
 op 48 (.load false 1 (.tmp 47)) [3], od 49 (.move (.tmp 5)), op 50 (.indexAddr 8 (.tmp 48) (.tmp 49)) [4, 5], op 51 (.fieldAddr 1 (.tmp 50)) [6],
 op 52 (.load false 1 (.tmp 51)) [7], op 53 (.call 864 false (fc 32) [(.tmp 52)]) [8], op 54 (.indexAddr 8 (.tmp 45) (.tmp 46)) ([1, 2] ++ rg 10), op 55 (.fieldAddr 1 (.tmp 54)) ([10] ++ rg 10),
 ⟨none, .store false 1 (.tmp 55) (.tmp 53), none, ([11, 9, 9] ++ rg 10)⟩])))
  (.region [od 56 (.bin .add (.tmp 41) (ic 1)), od 41 (.move (.tmp 56))]))))
def f16_b : ACode :=
  (.seq (.region [od 1 (.new 32 4 (.tmp 0)), od 2 (.new 48 4 (.const (.agg [.lit 4 [], .lit 5 [], .lit 8 [], .lit 7 []])))])
  (.seq (.drawn [od 6 (.fieldAddr 0 (.tmp 1)), op 7 (.load false 1 (.tmp 6)) [0], op 8 (.call 144 true (fc 28) [(.tmp 7)]) [1], od 9 (.fieldAddr 1 (.tmp 1)),
 op 10 (.load false 1 (.tmp 9)) [3], op 11 (.call 192 true (fc 29) [(.tmp 10)]) [4, 2], od 12 (.fieldAddr 2 (.tmp 1)), op 13 (.load false 1 (.tmp 12)) [6],
 op 14 (.call 240 true (fc 30) [(.tmp 13)]) [7, 5], od 15 (.fieldAddr 3 (.tmp 1)), op 16 (.load false 1 (.tmp 15)) [9], op 17 (.call 288 true (fc 31) [(.tmp 16)]) [10, 8],
 op 18 (.build [.lit 4 [], .lit 5 [], .lit 8 [], .lit 7 []] [(0, 1, (.tmp 8)), (1, 1, (.tmp 11)), (2, 1, (.tmp 14)), (3, 1, (.tmp 17))]) [2, 5, 8, 11], od 3 (.new 64 4 (.const (.agg [.lit 4 [], .lit 5 [], .lit 8 [], .lit 7 []]))), ⟨none, .store true 4 (.tmp 3) (.tmp 18), none, ([13, 12, 11] ++ rg 14)⟩])
  (.seq (.seq (.region [od 19 (.fieldAddr 0 (.tmp 3)), od 20 (.load false 1 (.tmp 19)), od 21 (.len (.tmp 20)), od 22 (.move (ic 0))])
  (.block 0 (.loop f16_l0)))
  (.seq (.seq (.region [od 38 (.fieldAddr 2 (.tmp 3)), od 39 (.load false 1 (.tmp 38)), od 40 (.len (.tmp 39)), od 41 (.move (ic 0))])
  (.block 2 (.loop f16_l1)))
  (.seq (.region [od 57 (.load true 4 (.tmp 3)), ow (.store true 4 (.tmp 2) (.tmp 57))])
  .ret)))))
def f16 : AFunc := ⟨1, 58, [], [.cell 2 true 4], f16_b⟩

/-! 17: cmp.Or[string] -/
abbrev f17_l0 : ACode :=
  (.seq (.region [od 9 (.bin .lss (.tmp 8) (.tmp 7))])
  (.seq (.cond (.tmp 9)
  .skip
  (.exit 0))
  (.seq (.block 1 (.seq (.region [od 10 (.indexAddr 1 (.tmp 6) (.tmp 8)), od 11 (.load false 1 (.tmp 10)), od 5 (.move (.tmp 11))])
  (.seq (.region [od 12 (.move (.tmp 5)), od 13 (.move (.tmp 3)), od 14 (.bin .neq (.tmp 12) (.tmp 13))])
  (.cond (.tmp 14)
  (.seq (.region [od 15 (.move (.tmp 5)), od 2 (.move (.tmp 15))])
  .ret)
  .skip))))
  (.region [od 16 (.bin .add (.tmp 8) (ic 1)), od 8 (.move (.tmp 16))]))))
def f17_b : ACode :=
  (.seq (.region [od 2 (.move (.const (.str [])))])
  (.seq (.region [od 3 (.move (.const (.str [])))])
  (.seq (.seq (.region [od 6 (.move (.tmp 0)), od 7 (.len (.tmp 6)), od 8 (.move (ic 0))])
  (.block 0 (.loop f17_l0)))
  (.seq (.region [od 17 (.move (.tmp 3)), od 2 (.move (.tmp 17))])
  .ret))))
def f17 : AFunc := ⟨1, 18, [], [.tmp 2], f17_b⟩

/-! 18: slices.Delete[[]hachure/api.Place,hachure/api.Place] -/
def f18_b : ACode :=
  (.seq (.region [od 6 (.move (.const (.lit 7 [])))])
  (.seq (.region [od 8 (.move (.tmp 0)), od 9 (.move (.tmp 1)), od 10 (.move (.tmp 2)), od 11 (.move (.tmp 0)),
 od 12 (.len (.tmp 11)), od 13 (.slice 7 (.tmp 8) (some (.tmp 9)) (some (.tmp 10)) (some (.tmp 12)))])
  (.seq (.seq (.region [od 14 (.move (.tmp 1)), od 15 (.move (.tmp 2)), od 16 (.bin .eql (.tmp 14) (.tmp 15))])
  (.cond (.tmp 16)
  (.seq (.region [od 17 (.move (.tmp 0)), od 6 (.move (.tmp 17))])
  .ret)
  .skip))
  (.seq (.region [od 18 (.move (.tmp 0)), od 19 (.len (.tmp 18)), od 7 (.move (.tmp 19))])
  (.seq (.drawn [od 20 (.move (.tmp 0)), od 21 (.move (.tmp 1)), op 22 (.slice 7 (.tmp 20) none (some (.tmp 21)) none) [0, 1], od 23 (.move (.tmp 0)),
 od 24 (.move (.tmp 2)), op 25 (.slice 7 (.tmp 23) (some (.tmp 24)) none none) [3, 4], op 26 (.append 432 7 1927910799188 (.tmp 22) (.tmp 25)) [2, 5], op 0 (.move (.tmp 26)) ([6, 6] ++ rg 7)])
  (.seq (.region [od 27 (.move (.tmp 0)), od 28 (.move (.tmp 0)), od 29 (.len (.tmp 28)), od 30 (.move (.tmp 7)),
 od 31 (.slice 7 (.tmp 27) (some (.tmp 29)) (some (.tmp 30)) none), ow (.clear 7 (.agg [.int .i64 0, .int .i64 0, .int .i64 0, .str [], .str [], .int .i64 0, .int .i64 0]) (.tmp 31))])
  (.seq (.region [od 32 (.move (.tmp 0)), od 6 (.move (.tmp 32))])
  .ret)))))))
def f18 : AFunc := ⟨3, 33, [some 7, none, none], [.tmp 6], f18_b⟩

/-! 19: hachure/gather.find -/
def f19_b : ACode :=
  (.seq (.region [od 2 (.new 48 4 (.tmp 0)), od 3 (.new 64 1 (.tmp 1)), od 4 (.move (ic 0))])
  (.seq (.region [od 5 (.fieldAddr 3 (.tmp 2)), od 6 (.load false 1 (.tmp 5)), od 7 (.mkFunc 34 [(.tmp 3)]), od 8 (.call 144 false (fc 33) [(.tmp 6), (.tmp 7)]),
 od 4 (.move (.tmp 8))])
  .ret))
def f19 : AFunc := ⟨2, 9, [], [.tmp 4], f19_b⟩

/-! 20: hachure/gather.least[hachure/api.Place] -/
def f20_b : ACode :=
  (.seq (.region [od 4 (.new 80 7 (.const (.agg [.int .i64 0, .int .i64 0, .int .i64 0, .str [], .str [], .int .i64 0, .int .i64 0]))), od 5 (.move (.const (.bool false)))])
  (.seq (.seq (.region [od 7 (.move (.tmp 0)), od 8 (.len (.tmp 7)), od 9 (.bin .eql (.tmp 8) (ic 0))])
  (.cond (.tmp 9)
  (.seq (.region [od 6 (.new 112 7 (.const (.agg [.int .i64 0, .int .i64 0, .int .i64 0, .str [], .str [], .int .i64 0, .int .i64 0])))])
  (.seq (.region [od 10 (.load true 7 (.tmp 6)), ow (.store true 7 (.tmp 4) (.tmp 10)), od 5 (.move (.const (.bool false)))])
  .ret))
  .skip))
  (.seq (.region [od 11 (.move (.tmp 0)), od 12 (.move (.tmp 1)), od 13 (.call 224 false (fc 35) [(.tmp 11), (.tmp 12)]), ow (.store true 7 (.tmp 4) (.tmp 13)),
 od 5 (.move (.const (.bool true)))])
  .ret)))
def f20 : AFunc := ⟨2, 14, [], [.cell 4 true 7, .tmp 5], f20_b⟩

/-! 21: hachure/gather.All$1 -/
def f21_b : ACode :=
  (.seq (.region [od 3 (.new 64 7 (.tmp 0)), od 4 (.new 80 7 (.tmp 1)), od 5 (.move (ic 0))])
  (.seq (.drawn [od 6 (.fieldAddr 1 (.tmp 2)), op 7 (.load true 2 (.tmp 6)) [0], od 8 (.fieldAddr 1 (.tmp 3)), op 9 (.load true 2 (.tmp 8)) [2],
 op 10 (.call 176 false (fc 24) [(.tmp 7), (.tmp 9)]) [1, 3], od 11 (.fieldAddr 1 (.tmp 2)), op 12 (.load true 2 (.tmp 11)) [5], od 13 (.fieldAddr 1 (.tmp 4)),
 op 14 (.load true 2 (.tmp 13)) [7], op 15 (.call 256 false (fc 24) [(.tmp 12), (.tmp 14)]) [6, 8, 4], op 16 (.call 272 false (fc 23) [(.tmp 10), (.tmp 15)]) [4, 9, 9], od 17 (.fieldAddr 0 (.tmp 3)),
 op 18 (.load false 1 (.tmp 17)) [11], od 19 (.fieldAddr 0 (.tmp 4)), op 20 (.load false 1 (.tmp 19)) [13], op 21 (.call 352 false (fc 23) [(.tmp 18), (.tmp 20)]) [12, 14, 10],
 op 22 (.buildSlice 368 1 (.int .i64 0) 2 [(0, (.tmp 16)), (1, (.tmp 21))]) [10, 15], op 23 (.call 384 false (fc 22) [(.tmp 22)]) [16, 15], op 5 (.move (.tmp 23)) ([17, 17] ++ rg 18)])
  .ret))
def f21 : AFunc := ⟨3, 24, [], [.tmp 5], f21_b⟩

/-! 22: cmp.Or[int] -/
abbrev f22_l0 : ACode :=
  (.seq (.region [od 9 (.bin .lss (.tmp 8) (.tmp 7))])
  (.seq (.cond (.tmp 9)
  .skip
  (.exit 0))
  (.seq (.block 1 (.seq (.region [od 10 (.indexAddr 1 (.tmp 6) (.tmp 8)), od 11 (.load false 1 (.tmp 10)), od 5 (.move (.tmp 11))])
  (.seq (.region [od 12 (.move (.tmp 5)), od 13 (.move (.tmp 3)), od 14 (.bin .neq (.tmp 12) (.tmp 13))])
  (.cond (.tmp 14)
  (.seq (.region [od 15 (.move (.tmp 5)), od 2 (.move (.tmp 15))])
  .ret)
  .skip))))
  (.region [od 16 (.bin .add (.tmp 8) (ic 1)), od 8 (.move (.tmp 16))]))))
def f22_b : ACode :=
  (.seq (.region [od 2 (.move (ic 0))])
  (.seq (.region [od 3 (.move (ic 0))])
  (.seq (.seq (.region [od 6 (.move (.tmp 0)), od 7 (.len (.tmp 6)), od 8 (.move (ic 0))])
  (.block 0 (.loop f22_l0)))
  (.seq (.region [od 17 (.move (.tmp 3)), od 2 (.move (.tmp 17))])
  .ret))))
def f22 : AFunc := ⟨1, 18, [], [.tmp 2], f22_b⟩

/-! 23: cmp.Compare[int] -/
def f23_b : ACode :=
  (.seq (.region [od 4 (.move (ic 0))])
  (.seq (.region [od 7 (.move (.tmp 0)), od 8 (.call 144 false (fc 36) [(.tmp 7)]), od 5 (.move (.tmp 8))])
  (.seq (.region [od 9 (.move (.tmp 1)), od 10 (.call 176 false (fc 36) [(.tmp 9)]), od 6 (.move (.tmp 10))])
  (.seq (.seq (.region [od 11 (.move (.tmp 5))])
  (.cond (.tmp 11)
  (.seq (.seq (.region [od 12 (.move (.tmp 6))])
  (.cond (.tmp 12)
  (.seq (.region [od 4 (.move (ic 0))])
  .ret)
  .skip))
  (.seq (.region [od 4 (.move (ic (-1)))])
  .ret))
  .skip))
  (.seq (.seq (.region [od 13 (.move (.tmp 6))])
  (.cond (.tmp 13)
  (.seq (.region [od 4 (.move (ic 1))])
  .ret)
  .skip))
  (.seq (.seq (.region [od 14 (.move (.tmp 0)), od 15 (.move (.tmp 1)), od 16 (.bin .lss (.tmp 14) (.tmp 15))])
  (.cond (.tmp 16)
  (.seq (.region [od 4 (.move (ic (-1)))])
  .ret)
  .skip))
  (.seq (.seq (.region [od 17 (.move (.tmp 0)), od 18 (.move (.tmp 1)), od 19 (.bin .gtr (.tmp 17) (.tmp 18))])
  (.cond (.tmp 19)
  (.seq (.region [od 4 (.move (ic 1))])
  .ret)
  .skip))
  (.seq (.region [od 4 (.move (ic 0))])
  .ret))))))))
def f23 : AFunc := ⟨2, 20, [], [.tmp 4], f23_b⟩

/-! 25: slices.SortFunc[[]hachure/api.Event,hachure/api.Event] -/
def f25_b : ACode :=
  (.seq (.region [od 5 (.move (.tmp 0)), od 6 (.len (.tmp 5)), od 4 (.move (.tmp 6))])
  (.region [od 7 (.move (.tmp 0)), od 8 (.move (.tmp 4)), od 9 (.move (.tmp 4)), od 10 (.convInt .u64 (.tmp 9)),
 od 11 (.call 192 false (fc 40) [(.tmp 10)]), od 12 (.move (.tmp 1)), od 13 (.call 224 false (fc 39) [(.tmp 7), (ic 0), (.tmp 8), (.tmp 11), (.tmp 12)])]))
def f25 : AFunc := ⟨2, 14, [some 5, none], [], f25_b⟩

/-! 26: hachure/gather.All$2 -/
def f26_b : ACode :=
  (.seq (.region [od 2 (.new 48 5 (.tmp 0)), od 3 (.new 64 5 (.tmp 1)), od 4 (.move (ic 0))])
  (.seq (.region [od 5 (.fieldAddr 2 (.tmp 2)), od 6 (.load false 1 (.tmp 5)), od 7 (.fieldAddr 2 (.tmp 3)), od 8 (.load false 1 (.tmp 7)),
 od 9 (.call 160 false (fc 23) [(.tmp 6), (.tmp 8)]), od 4 (.move (.tmp 9))])
  .ret))
def f26 : AFunc := ⟨2, 10, [], [.tmp 4], f26_b⟩

/-! 113: hachure/hachureref07.add -/
def f113_b : ACode :=
  (.seq (.region [od 10 (.emptyBuf 177 4)])
  (.seq (.seq (.region [od 12 (.move (.tmp 2)), od 13 (.move (.tmp 3)), od 14 (.bin .eql (.tmp 12) (.tmp 13))])
  (.cond (.tmp 14)
  (.seq (.region [od 15 (.move (.tmp 0)), od 10 (.move (.tmp 15))])
  .ret)
  .skip))
  (.seq (.region [od 16 (.move (.tmp 0)), od 17 (.len (.tmp 16)), od 18 (.bin .add (.tmp 17) (ic 1)), od 19 (.move (.tmp 1)),
 od 20 (.move (.tmp 2)), od 21 (.move (.tmp 3)), od 22 (.build [.int .i64 0, .lit 2 [], .int .i64 0, .int .i64 0] [(0, 1, (.tmp 18)), (1, 1, (.tmp 19)), (2, 1, (.tmp 20)), (3, 1, (.tmp 21))]), od 11 (.new 192 4 (.const (.agg [.int .i64 0, .lit 2 [], .int .i64 0, .int .i64 0]))),
 ow (.store true 4 (.tmp 11) (.tmp 22))])
  (.seq (.seq (.region [od 23 (.move (.tmp 4)), od 24 (.call 400 false (fc 85) [(.tmp 23), (ic 2)]), od 25 (.bin .eql (.tmp 24) (ic 1))])
  (.cond (.tmp 25)
  (.region [od 26 (.load true 4 (.tmp 11)), od 27 (.call 448 false (fc 131) [(.tmp 26)]), ow (.store true 4 (.tmp 11) (.tmp 27))])
  .skip))
  (.seq (.region [od 28 (.move (.tmp 0)), od 29 (.load true 4 (.tmp 11)), od 30 (.buildSlice 496 4 (.agg [.int .i64 0, .nils, .int .i64 0, .int .i64 0]) 1 [(0, (.tmp 29))]), od 31 (.append 17 4 2872193639704 (.tmp 28) (.tmp 30)),
 od 10 (.move (.tmp 31))])
  .ret)))))
def f113 : AFunc := ⟨5, 32, [some 4, none, none, none, some 2], [.tmp 10], f113_b⟩

/-! 114: hachure/hachureref07.wiggle -/
abbrev f114_l0 : ACode :=
  (.seq (.seq (.region [od 20 (.move (.tmp 10)), od 21 (.move (.tmp 8)), od 22 (.bin .leq (.tmp 20) (.tmp 21))])
  (.cond (.tmp 22)
  .skip
  (.exit 0)))
  (.seq (.block 1 (.seq (.drawn [od 25 (.fieldAddr 0 (.tmp 3)), op 26 (.load false 1 (.tmp 25)) [0], od 27 (.fieldAddr 0 (.tmp 9)), op 28 (.load false 1 (.tmp 27)) [2],
 od 29 (.move (.tmp 10)), op 30 (.bin .mul (.tmp 28) (.tmp 29)) [3, 4], od 31 (.move (.tmp 8)), op 32 (.bin .add (.tmp 31) (ic 1)) [6],
 op 33 (.bin .quo (.tmp 30) (.tmp 32)) [5, 7], op 34 (.bin .add (.tmp 26) (.tmp 33)) [1, 8], od 35 (.fieldAddr 1 (.tmp 3)), op 36 (.load false 1 (.tmp 35)) [10],
 od 37 (.fieldAddr 1 (.tmp 9)), op 38 (.load false 1 (.tmp 37)) [12], od 39 (.move (.tmp 10)), op 40 (.bin .mul (.tmp 38) (.tmp 39)) [13, 14],
 od 41 (.move (.tmp 8)), op 42 (.bin .add (.tmp 41) (ic 1)) [16], op 43 (.bin .quo (.tmp 40) (.tmp 42)) [15, 17], op 44 (.bin .add (.tmp 36) (.tmp 43)) [11, 18],
 op 45 (.build [.int .i64 0, .int .i64 0] [(0, 1, (.tmp 34)), (1, 1, (.tmp 44))]) [9, 19], od 11 (.new 192 2 (.const (.agg [.int .i64 0, .int .i64 0]))), ⟨none, .store true 2 (.tmp 11) (.tmp 45), none, ([21, 20] ++ rg 22)⟩])
  (.seq (.region [od 46 (.move (.tmp 2)), od 47 (.call 768 false (fc 85) [(.tmp 46), (ic 21)]), od 48 (.bin .sub (.tmp 47) (ic 10)), od 49 (.move (.tmp 8)),
 od 50 (.bin .quo (.tmp 49) (ic 2)), od 51 (.bin .add (ic 1) (.tmp 50)), od 52 (.bin .quo (.tmp 48) (.tmp 51)), od 12 (.move (.tmp 52))])
  (.seq (.seq (.region [od 53 (.fieldAddr 0 (.tmp 9)), od 54 (.load false 1 (.tmp 53)), od 55 (.fieldAddr 1 (.tmp 9)), od 56 (.load false 1 (.tmp 55)),
 od 57 (.bin .gtr (.tmp 54) (.tmp 56))])
  (.cond (.tmp 57)
  (.region [od 58 (.fieldAddr 1 (.tmp 11)), od 59 (.load false 1 (.tmp 58)), od 60 (.move (.tmp 12)), od 61 (.bin .add (.tmp 59) (.tmp 60)),
 od 62 (.fieldAddr 1 (.tmp 11)), ow (.store false 1 (.tmp 62) (.tmp 61))])
  (.region [od 63 (.fieldAddr 0 (.tmp 11)), od 64 (.load false 1 (.tmp 63)), od 65 (.move (.tmp 12)), od 66 (.bin .add (.tmp 64) (.tmp 65)),
 od 67 (.fieldAddr 0 (.tmp 11)), ow (.store false 1 (.tmp 67) (.tmp 66))])))
  (.region [od 68 (.move (.tmp 7)), od 69 (.load true 2 (.tmp 11)), od 70 (.buildSlice 1136 2 (.agg [.int .i64 0, .int .i64 0]) 1 [(0, (.tmp 69))]), od 71 (.append 129 2 8278675785407 (.tmp 68) (.tmp 70)),
 od 7 (.ren 129 (.tmp 71))])))))
  (.region [od 23 (.move (.tmp 10)), od 24 (.bin .add (.tmp 23) (ic 1)), od 10 (.move (.tmp 24))])))
def f114_b : ACode :=
  (.seq (.region [od 3 (.new 64 2 (.tmp 0)), od 4 (.new 80 2 (.tmp 1)), od 6 (.move (.const (.lit 2 [])))])
  (.seq (.region [od 13 (.load true 2 (.tmp 3)), od 14 (.buildSlice 240 2 (.agg [.int .i64 0, .int .i64 0]) 1 [(0, (.tmp 13))]), od 7 (.ren 129 (.tmp 14))])
  (.seq (.region [od 15 (.move (.tmp 2)), od 16 (.call 272 false (fc 85) [(.tmp 15), (ic 4)]), od 8 (.move (.tmp 16))])
  (.seq (.region [od 17 (.load true 2 (.tmp 4)), od 18 (.load true 2 (.tmp 3)), od 19 (.call 320 false (fc 161) [(.tmp 17), (.tmp 18)]), od 9 (.new 160 2 (.const (.agg [.int .i64 0, .int .i64 0]))),
 ow (.store true 2 (.tmp 9) (.tmp 19))])
  (.seq (.seq (.region [od 10 (.move (ic 1))])
  (.block 0 (.loop f114_l0)))
  (.seq (.region [od 72 (.move (.tmp 7)), od 73 (.load true 2 (.tmp 4)), od 74 (.buildSlice 1200 2 (.agg [.int .i64 0, .int .i64 0]) 1 [(0, (.tmp 73))]), od 75 (.append 129 2 8278675785407 (.tmp 72) (.tmp 74)),
 od 6 (.move (.tmp 75))])
  .ret))))))
def f114 : AFunc := ⟨3, 76, [none, none, some 2], [.tmp 6], f114_b⟩

/-! 115: hachure/hachureref07.node -/
def f115_b : ACode :=
  (.seq (.region [od 6 (.new 112 2 (.const (.agg [.int .i64 0, .int .i64 0])))])
  (.seq (.region [od 10 (.move (.tmp 2)), od 11 (.bin .mul (ic 4) (.tmp 10)), od 12 (.move (.tmp 1)), od 13 (.bin .add (.tmp 11) (.tmp 12)),
 od 7 (.move (.tmp 13))])
  (.seq (.region [od 8 (.move (ic 0))])
  (.seq (.region [od 9 (.move (ic 0))])
  (.seq (.seq (.region [od 14 (.move (.tmp 7)), od 15 (.bin .mul (ic 2) (.tmp 14)), od 16 (.bin .add (.tmp 15) (ic 1)), od 17 (.move (.tmp 0)),
 od 18 (.len (.tmp 17)), od 19 (.bin .lss (.tmp 16) (.tmp 18))])
  (.cond (.tmp 19)
  (.seq (.region [od 20 (.move (.tmp 0)), od 21 (.move (.tmp 7)), od 22 (.bin .mul (ic 2) (.tmp 21)), od 23 (.indexAddr 1 (.tmp 20) (.tmp 22)),
 od 24 (.load false 1 (.tmp 23)), od 25 (.call 416 false (fc 93) [(.tmp 24), (ic 21)]), od 26 (.bin .sub (.tmp 25) (ic 10)), od 8 (.move (.tmp 26))])
  (.region [od 27 (.move (.tmp 0)), od 28 (.move (.tmp 7)), od 29 (.bin .mul (ic 2) (.tmp 28)), od 30 (.bin .add (.tmp 29) (ic 1)),
 od 31 (.indexAddr 1 (.tmp 27) (.tmp 30)), od 32 (.load false 1 (.tmp 31)), od 33 (.call 544 false (fc 93) [(.tmp 32), (ic 21)]), od 34 (.bin .sub (.tmp 33) (ic 10)),
 od 9 (.move (.tmp 34))]))
  .skip))
  (.seq (.region [od 35 (.move (.tmp 1)), od 36 (.bin .mul (ic 100) (.tmp 35)), od 37 (.bin .add (ic 40) (.tmp 36)), od 38 (.move (.tmp 8)),
 od 39 (.bin .add (.tmp 37) (.tmp 38)), od 40 (.move (.tmp 2)), od 41 (.bin .mul (ic 100) (.tmp 40)), od 42 (.bin .add (ic 40) (.tmp 41)),
 od 43 (.move (.tmp 9)), od 44 (.bin .add (.tmp 42) (.tmp 43)), od 45 (.build [.int .i64 0, .int .i64 0] [(0, 1, (.tmp 39)), (1, 1, (.tmp 44))]), ow (.store true 2 (.tmp 6) (.tmp 45))])
  .ret))))))
def f115 : AFunc := ⟨3, 46, [], [.cell 6 true 2], f115_b⟩

/-! 116: hachure/hachureref07.cell -/
def f116_b : ACode :=
  (.seq (.region [od 5 (.new 96 6 (.tmp 0)), od 10 (.move (ic 0))])
  (.seq (.seq (.region [od 11 (.move (.tmp 3)), od 12 (.bin .lss (.tmp 11) (ic 0)), od 13 (.move (.tmp 12)), ⟨some 14, .move (.tmp 4), some (13, false), []⟩,
 ⟨some 15, .bin .lss (.tmp 14) (ic 0), some (13, false), []⟩, od 16 (.pick (.tmp 13) (.const (.bool true)) (.tmp 15)), od 17 (.move (.tmp 16)), ⟨some 18, .move (.tmp 3), some (17, false), []⟩,
 ⟨some 19, .move (.tmp 1), some (17, false), []⟩, ⟨some 20, .bin .geq (.tmp 18) (.tmp 19), some (17, false), []⟩, od 21 (.pick (.tmp 17) (.const (.bool true)) (.tmp 20)), od 22 (.move (.tmp 21)),
 ⟨some 23, .move (.tmp 4), some (22, false), []⟩, ⟨some 24, .move (.tmp 2), some (22, false), []⟩, ⟨some 25, .bin .geq (.tmp 23) (.tmp 24), some (22, false), []⟩, od 26 (.pick (.tmp 22) (.const (.bool true)) (.tmp 25))])
  (.cond (.tmp 26)
  (.seq (.region [od 10 (.move (ic 0))])
  .ret)
  .skip))
  (.seq (.region [od 27 (.move (.tmp 3)), od 28 (.move (.tmp 4)), od 29 (.indexArr 3 2 (.tmp 5) (.tmp 27)), od 30 (.indexArr 2 1 (.tmp 29) (.tmp 28)),
 od 31 (.load false 1 (.tmp 30)), od 10 (.move (.tmp 31))])
  .ret)))
def f116 : AFunc := ⟨5, 32, [], [.tmp 10], f116_b⟩

/-! 117: hachure/hachureref07.island -/
def f117_b : ACode :=
  (.seq (.region [od 5 (.new 96 2 (.tmp 1)), od 8 (.move (.const (.lit 4 [])))])
  (.seq (.region [od 11 (.move (.tmp 3)), od 12 (.call 208 false (fc 85) [(.tmp 11), (ic 8)]), od 13 (.bin .add (ic 6) (.tmp 12)), od 9 (.move (.tmp 13))])
  (.seq (.region [od 14 (.fieldAddr 0 (.tmp 5)), od 15 (.load false 1 (.tmp 14)), od 16 (.move (.tmp 9)), od 17 (.bin .sub (.tmp 15) (.tmp 16)),
 od 18 (.fieldAddr 1 (.tmp 5)), od 19 (.load false 1 (.tmp 18)), od 20 (.move (.tmp 9)), od 21 (.bin .sub (.tmp 19) (.tmp 20)),
 od 22 (.build [.int .i64 0, .int .i64 0] [(0, 1, (.tmp 17)), (1, 1, (.tmp 21))]), od 23 (.fieldAddr 0 (.tmp 5)), od 24 (.load false 1 (.tmp 23)), od 25 (.move (.tmp 9)),
 od 26 (.bin .add (.tmp 24) (.tmp 25)), od 27 (.fieldAddr 1 (.tmp 5)), od 28 (.load false 1 (.tmp 27)), od 29 (.move (.tmp 9)),
 od 30 (.bin .sub (.tmp 28) (.tmp 29)), od 31 (.build [.int .i64 0, .int .i64 0] [(0, 1, (.tmp 26)), (1, 1, (.tmp 30))]), od 32 (.fieldAddr 0 (.tmp 5)), od 33 (.load false 1 (.tmp 32)),
 od 34 (.move (.tmp 9)), od 35 (.bin .add (.tmp 33) (.tmp 34)), od 36 (.fieldAddr 1 (.tmp 5)), od 37 (.load false 1 (.tmp 36)),
 od 38 (.move (.tmp 9)), od 39 (.bin .add (.tmp 37) (.tmp 38)), od 40 (.build [.int .i64 0, .int .i64 0] [(0, 1, (.tmp 35)), (1, 1, (.tmp 39))]), od 41 (.fieldAddr 0 (.tmp 5)),
 od 42 (.load false 1 (.tmp 41)), od 43 (.move (.tmp 9)), od 44 (.bin .sub (.tmp 42) (.tmp 43)), od 45 (.fieldAddr 1 (.tmp 5)),
 od 46 (.load false 1 (.tmp 45)), od 47 (.move (.tmp 9)), od 48 (.bin .sub (.tmp 46) (.tmp 47)), od 49 (.build [.int .i64 0, .int .i64 0] [(0, 1, (.tmp 44)), (1, 1, (.tmp 48))]),
 od 50 (.buildSlice 816 2 (.agg [.int .i64 0, .int .i64 0]) 4 [(0, (.tmp 22)), (1, (.tmp 31)), (2, (.tmp 40)), (3, (.tmp 49))]), od 10 (.ren 177 (.tmp 50))])
  (.seq (.seq (.region [od 51 (.move (.tmp 3)), od 52 (.call 848 false (fc 85) [(.tmp 51), (ic 2)]), od 53 (.bin .eql (.tmp 52) (ic 1))])
  (.cond (.tmp 53)
  (.region [od 54 (.fieldAddr 0 (.tmp 5)), od 55 (.load false 1 (.tmp 54)), od 56 (.move (.tmp 9)), od 57 (.bin .sub (.tmp 55) (.tmp 56)),
 od 58 (.fieldAddr 1 (.tmp 5)), od 59 (.load false 1 (.tmp 58)), od 60 (.build [.int .i64 0, .int .i64 0] [(0, 1, (.tmp 57)), (1, 1, (.tmp 59))]), od 61 (.fieldAddr 0 (.tmp 5)),
 od 62 (.load false 1 (.tmp 61)), od 63 (.fieldAddr 1 (.tmp 5)), od 64 (.load false 1 (.tmp 63)), od 65 (.move (.tmp 9)),
 od 66 (.bin .sub (.tmp 64) (.tmp 65)), od 67 (.build [.int .i64 0, .int .i64 0] [(0, 1, (.tmp 62)), (1, 1, (.tmp 66))]), od 68 (.fieldAddr 0 (.tmp 5)), od 69 (.load false 1 (.tmp 68)),
 od 70 (.move (.tmp 9)), od 71 (.bin .add (.tmp 69) (.tmp 70)), od 72 (.fieldAddr 1 (.tmp 5)), od 73 (.load false 1 (.tmp 72)),
 od 74 (.bin .add (.tmp 73) (ic 2)), od 75 (.build [.int .i64 0, .int .i64 0] [(0, 1, (.tmp 71)), (1, 1, (.tmp 74))]), od 76 (.fieldAddr 0 (.tmp 5)), od 77 (.load false 1 (.tmp 76)),
 od 78 (.fieldAddr 1 (.tmp 5)), od 79 (.load false 1 (.tmp 78)), od 80 (.move (.tmp 9)), od 81 (.bin .add (.tmp 79) (.tmp 80)),
 od 82 (.build [.int .i64 0, .int .i64 0] [(0, 1, (.tmp 77)), (1, 1, (.tmp 81))]), od 83 (.fieldAddr 0 (.tmp 5)), od 84 (.load false 1 (.tmp 83)), od 85 (.move (.tmp 9)),
 od 86 (.bin .sub (.tmp 84) (.tmp 85)), od 87 (.fieldAddr 1 (.tmp 5)), od 88 (.load false 1 (.tmp 87)), od 89 (.build [.int .i64 0, .int .i64 0] [(0, 1, (.tmp 86)), (1, 1, (.tmp 88))]),
 od 90 (.buildSlice 1456 2 (.agg [.int .i64 0, .int .i64 0]) 5 [(0, (.tmp 60)), (1, (.tmp 67)), (2, (.tmp 75)), (3, (.tmp 82)), (4, (.tmp 89))]), od 10 (.ren 177 (.tmp 90))])
  .skip))
  (.seq (.region [od 91 (.move (.tmp 0)), od 92 (.move (.tmp 10)), od 93 (.move (.tmp 2)), od 94 (.move (.tmp 3)),
 od 95 (.call 1536 true (fc 113) [(.tmp 91), (.tmp 92), (ic 28), (.tmp 93), (.tmp 94)]), od 8 (.move (.tmp 95))])
  .ret)))))
def f117 : AFunc := ⟨4, 96, [some 4, none, none, some 2], [.tmp 8], f117_b⟩

/-! 118: hachure/hachureref07.faces -/
abbrev f118_l0 : ACode :=
  (.seq (.seq (.region [od 7 (.move (.tmp 4)), od 8 (.move (.tmp 0)), od 9 (.len (.tmp 8)), od 10 (.bin .lss (.tmp 7) (.tmp 9))])
  (.cond (.tmp 10)
  .skip
  (.exit 0)))
  (.seq (.block 1 (.seq (.seq (.region [od 13 (.move (.tmp 0)), od 14 (.move (.tmp 4)), od 15 (.indexAddr 4 (.tmp 13) (.tmp 14)), od 16 (.fieldAddr 2 (.tmp 15)),
 od 17 (.load false 1 (.tmp 16)), od 18 (.bin .neq (.tmp 17) (ic 0))])
  (.cond (.tmp 18)
  (.region [od 19 (.move (.tmp 3)), od 20 (.move (.tmp 0)), od 21 (.move (.tmp 4)), od 22 (.indexAddr 4 (.tmp 20) (.tmp 21)),
 od 23 (.fieldAddr 2 (.tmp 22)), od 24 (.load false 1 (.tmp 23)), od 25 (.call 416 false (fc 162) [(.tmp 19), (.tmp 24)]), od 3 (.ren 65 (.tmp 25))])
  .skip))
  (.seq (.region [od 26 (.move (.tmp 0)), od 27 (.move (.tmp 4)), od 28 (.indexAddr 4 (.tmp 26) (.tmp 27)), od 29 (.fieldAddr 3 (.tmp 28)),
 od 30 (.load false 1 (.tmp 29)), od 31 (.bin .neq (.tmp 30) (ic 0))])
  (.cond (.tmp 31)
  (.region [od 32 (.move (.tmp 3)), od 33 (.move (.tmp 0)), od 34 (.move (.tmp 4)), od 35 (.indexAddr 4 (.tmp 33) (.tmp 34)),
 od 36 (.fieldAddr 3 (.tmp 35)), od 37 (.load false 1 (.tmp 36)), od 38 (.call 624 false (fc 162) [(.tmp 32), (.tmp 37)]), od 3 (.ren 65 (.tmp 38))])
  .skip))))
  (.region [od 11 (.move (.tmp 4)), od 12 (.bin .add (.tmp 11) (ic 1)), od 4 (.move (.tmp 12))])))
abbrev f118_l1 : ACode :=
  (.seq (.seq (.region [od 39 (.move (.tmp 6)), od 40 (.move (.tmp 3)), od 41 (.len (.tmp 40)), od 42 (.bin .lss (.tmp 39) (.tmp 41))])
  (.cond (.tmp 42)
  .skip
  (.exit 2)))
  (.seq (.block 3 (.region [od 45 (.move (.tmp 5)), od 46 (.move (.tmp 3)), od 47 (.move (.tmp 6)), od 48 (.indexAddr 1 (.tmp 46) (.tmp 47)),
 od 49 (.load false 1 (.tmp 48)), od 50 (.build [.int .i64 0, .str [], .str [], .int .i64 0, .int .i64 0] [(0, 1, (.tmp 49))]), od 51 (.buildSlice 832 5 (.agg [.int .i64 0, .str [], .str [], .int .i64 0, .int .i64 0]) 1 [(0, (.tmp 50))]), od 52 (.append 97 5 2469078742875 (.tmp 45) (.tmp 51)),
 od 5 (.ren 97 (.tmp 52))]))
  (.region [od 43 (.move (.tmp 6)), od 44 (.bin .add (.tmp 43) (ic 1)), od 6 (.move (.tmp 44))])))
def f118_b : ACode :=
  (.seq (.region [od 2 (.emptyBuf 49 5)])
  (.seq (.region [od 3 (.move (.const (.lit 1 [])))])
  (.seq (.seq (.region [od 4 (.move (ic 0))])
  (.block 0 (.loop f118_l0)))
  (.seq (.region [od 5 (.emptyBuf 97 5)])
  (.seq (.seq (.region [od 6 (.move (ic 0))])
  (.block 2 (.loop f118_l1)))
  (.seq (.region [od 53 (.move (.tmp 5)), od 2 (.move (.tmp 53))])
  .ret))))))
def f118 : AFunc := ⟨1, 54, [], [.tmp 2], f118_b⟩

/-! 119: hachure/hachureref10.way -/
abbrev f119_l0 : ACode :=
  (.seq (.seq (.region [od 25 (.move (.tmp 13)), od 26 (.move (.tmp 12)), od 27 (.bin .leq (.tmp 25) (.tmp 26))])
  (.cond (.tmp 27)
  .skip
  (.exit 0)))
  (.seq (.block 1 (.seq (.drawn [od 30 (.fieldAddr 0 (.tmp 6)), op 31 (.load false 1 (.tmp 30)) [0], od 32 (.fieldAddr 0 (.tmp 7)), op 33 (.load false 1 (.tmp 32)) [2],
 od 34 (.fieldAddr 0 (.tmp 6)), op 35 (.load false 1 (.tmp 34)) [4], op 36 (.bin .sub (.tmp 33) (.tmp 35)) [3, 5], od 37 (.move (.tmp 13)),
 op 38 (.bin .mul (.tmp 36) (.tmp 37)) [6, 7], od 39 (.move (.tmp 12)), op 40 (.bin .add (.tmp 39) (ic 1)) [9], op 41 (.bin .quo (.tmp 38) (.tmp 40)) [8, 10],
 op 42 (.bin .add (.tmp 31) (.tmp 41)) [1, 11], od 43 (.fieldAddr 1 (.tmp 6)), op 44 (.load false 1 (.tmp 43)) [13], od 45 (.fieldAddr 1 (.tmp 7)),
 op 46 (.load false 1 (.tmp 45)) [15], od 47 (.fieldAddr 1 (.tmp 6)), op 48 (.load false 1 (.tmp 47)) [17], op 49 (.bin .sub (.tmp 46) (.tmp 48)) [16, 18],
 od 50 (.move (.tmp 13)), op 51 (.bin .mul (.tmp 49) (.tmp 50)) [19, 20], od 52 (.move (.tmp 12)), op 53 (.bin .add (.tmp 52) (ic 1)) [22],
 op 54 (.bin .quo (.tmp 51) (.tmp 53)) [21, 23], op 55 (.bin .add (.tmp 44) (.tmp 54)) [14, 24], op 56 (.build [.int .i64 0, .int .i64 0] [(0, 1, (.tmp 42)), (1, 1, (.tmp 55))]) [12, 25], od 14 (.new 240 2 (.const (.agg [.int .i64 0, .int .i64 0]))),
 ⟨none, .store true 2 (.tmp 14) (.tmp 56), none, ([27, 26] ++ rg 28)⟩])
  (.seq (.region [od 57 (.move (.tmp 4)), od 58 (.call 944 false (fc 85) [(.tmp 57), (ic 17)]), od 59 (.bin .sub (.tmp 58) (ic 8)), od 15 (.move (.tmp 59))])
  (.seq (.seq (.region [od 60 (.fieldAddr 1 (.tmp 6)), od 61 (.load false 1 (.tmp 60)), od 62 (.fieldAddr 1 (.tmp 7)), od 63 (.load false 1 (.tmp 62)),
 od 64 (.bin .eql (.tmp 61) (.tmp 63))])
  (.cond (.tmp 64)
  (.region [od 65 (.fieldAddr 1 (.tmp 14)), od 66 (.load false 1 (.tmp 65)), od 67 (.move (.tmp 15)), od 68 (.bin .add (.tmp 66) (.tmp 67)),
 od 69 (.fieldAddr 1 (.tmp 14)), ow (.store false 1 (.tmp 69) (.tmp 68))])
  .skip))
  (.seq (.seq (.region [od 70 (.fieldAddr 0 (.tmp 6)), od 71 (.load false 1 (.tmp 70)), od 72 (.fieldAddr 0 (.tmp 7)), od 73 (.load false 1 (.tmp 72)),
 od 74 (.bin .eql (.tmp 71) (.tmp 73))])
  (.cond (.tmp 74)
  (.region [od 75 (.fieldAddr 0 (.tmp 14)), od 76 (.load false 1 (.tmp 75)), od 77 (.move (.tmp 15)), od 78 (.bin .add (.tmp 76) (.tmp 77)),
 od 79 (.fieldAddr 0 (.tmp 14)), ow (.store false 1 (.tmp 79) (.tmp 78))])
  .skip))
  (.region [od 80 (.fieldAddr 1 (.tmp 11)), od 81 (.load false 1 (.tmp 80)), od 82 (.load true 2 (.tmp 14)), od 83 (.buildSlice 1344 2 (.agg [.int .i64 0, .int .i64 0]) 1 [(0, (.tmp 82))]),
 od 84 (.append 195 2 8278675785407 (.tmp 81) (.tmp 83)), od 85 (.fieldAddr 1 (.tmp 11)), ow (.store false 1 (.tmp 85) (.tmp 84))]))))))
  (.region [od 28 (.move (.tmp 13)), od 29 (.bin .add (.tmp 28) (ic 1)), od 13 (.move (.tmp 29))])))
def f119_b : ACode :=
  (.seq (.region [od 6 (.new 112 2 (.tmp 1)), od 7 (.new 128 2 (.tmp 2)), od 10 (.move (.const (.lit 8 [])))])
  (.seq (.region [od 16 (.move (.tmp 0)), od 17 (.len (.tmp 16)), od 18 (.bin .add (ic 41) (.tmp 17)), od 19 (.move (.tmp 3)),
 od 20 (.load true 2 (.tmp 6)), od 21 (.buildSlice 352 2 (.agg [.int .i64 0, .int .i64 0]) 1 [(0, (.tmp 20))]), od 22 (.build [.int .i64 0, .nils, .int .i64 0, .str [], .str [], .bool false, .int .i64 0, .int .i64 0] [(0, 1, (.tmp 18)), (2, 1, (.tmp 19)), (1, 1, (.tmp 21))]), od 11 (.new 192 8 (.const (.agg [.int .i64 0, .nils, .int .i64 0, .str [], .str [], .bool false, .int .i64 0, .int .i64 0]))),
 ow (.store true 8 (.tmp 11) (.tmp 22))])
  (.seq (.region [od 23 (.move (.tmp 4)), od 24 (.call 400 false (fc 85) [(.tmp 23), (ic 3)]), od 12 (.move (.tmp 24))])
  (.seq (.seq (.region [od 13 (.move (ic 1))])
  (.block 0 (.loop f119_l0)))
  (.seq (.region [od 86 (.fieldAddr 1 (.tmp 11)), od 87 (.load false 1 (.tmp 86)), od 88 (.load true 2 (.tmp 7)), od 89 (.buildSlice 1440 2 (.agg [.int .i64 0, .int .i64 0]) 1 [(0, (.tmp 88))]),
 od 90 (.append 195 2 8278675785407 (.tmp 87) (.tmp 89)), od 91 (.fieldAddr 1 (.tmp 11)), ow (.store false 1 (.tmp 91) (.tmp 90))])
  (.seq (.region [od 92 (.buildSlice 1488 1 (.str []) 2 [(0, (.const (.str [112, 97, 116, 104]))), (1, (.const (.str [114, 111, 97, 100])))]), od 93 (.move (.tmp 4)), od 94 (.call 1520 false (fc 85) [(.tmp 93), (ic 2)]), od 95 (.indexAddr 1 (.tmp 92) (.tmp 94)),
 od 96 (.load false 1 (.tmp 95)), od 97 (.fieldAddr 3 (.tmp 11)), ow (.store false 1 (.tmp 97) (.tmp 96))])
  (.seq (.region [od 98 (.buildSlice 1584 1 (.str []) 4 [(0, (.const (.str []))), (1, (.const (.str []))), (2, (.const (.str [82, 105, 110, 103]))), (3, (.const (.str [79, 108, 100, 32, 87, 97, 121])))]), od 99 (.move (.tmp 4)), od 100 (.call 1616 false (fc 85) [(.tmp 99), (ic 4)]), od 101 (.indexAddr 1 (.tmp 98) (.tmp 100)),
 od 102 (.load false 1 (.tmp 101)), od 103 (.fieldAddr 4 (.tmp 11)), ow (.store false 1 (.tmp 103) (.tmp 102))])
  (.seq (.region [od 104 (.move (.tmp 4)), od 105 (.call 1696 false (fc 85) [(.tmp 104), (ic 4)]), od 106 (.bin .eql (.tmp 105) (ic 0)), od 107 (.fieldAddr 5 (.tmp 11)),
 ow (.store false 1 (.tmp 107) (.tmp 106))])
  (.seq (.region [od 108 (.move (.tmp 4)), od 109 (.call 1760 false (fc 85) [(.tmp 108), (ic 60)]), od 110 (.bin .add (ic 1) (.tmp 109)), od 111 (.fieldAddr 6 (.tmp 11)),
 ow (.store false 1 (.tmp 111) (.tmp 110))])
  (.seq (.region [od 112 (.move (.tmp 4)), od 113 (.call 1824 false (fc 85) [(.tmp 112), (ic 3)]), od 114 (.move (.tmp 4)), od 115 (.call 1856 false (fc 85) [(.tmp 114), (ic 2)]),
 od 116 (.bin .mul (.tmp 113) (.tmp 115)), od 117 (.bin .add (ic 1) (.tmp 116)), od 118 (.fieldAddr 7 (.tmp 11)), ow (.store false 1 (.tmp 118) (.tmp 117))])
  (.seq (.region [od 119 (.move (.tmp 0)), od 120 (.load true 8 (.tmp 11)), od 121 (.buildSlice 1952 8 (.agg [.int .i64 0, .nils, .int .i64 0, .str [], .str [], .bool false, .int .i64 0, .int .i64 0]) 1 [(0, (.tmp 120))]), od 122 (.append 17 8 1450901941607 (.tmp 119) (.tmp 121)),
 od 10 (.move (.tmp 122))])
  .ret)))))))))))
def f119 : AFunc := ⟨5, 123, [some 8, none, none, none, some 2], [.tmp 10], f119_b⟩

/-! 120: hachure/hachureref10.stop -/
def f120_b : ACode :=
  (.seq (.region [od 4 (.new 80 2 (.const (.agg [.int .i64 0, .int .i64 0])))])
  (.seq (.region [od 5 (.move (.tmp 0)), od 6 (.bin .mul (ic 80) (.tmp 5)), od 7 (.bin .add (ic 55) (.tmp 6)), od 8 (.move (.tmp 1)),
 od 9 (.bin .mul (ic 70) (.tmp 8)), od 10 (.bin .add (ic 65) (.tmp 9)), od 11 (.build [.int .i64 0, .int .i64 0] [(0, 1, (.tmp 7)), (1, 1, (.tmp 10))]), ow (.store true 2 (.tmp 4) (.tmp 11))])
  .ret))
def f120 : AFunc := ⟨2, 12, [], [.cell 4 true 2], f120_b⟩

/-! 121: hachure/hachureref07.At -/
def f121_b : ACode :=
  (.seq (.region [od 3 (.new 64 2 (.tmp 1)), od 4 (.move (ic 0)), od 5 (.move (.const (.bool false)))])
  (.seq (.drawn [od 6 (.move (.tmp 0)), op 7 (.call 128 false (fc 164) [(.tmp 6)]) [0], od 8 (.load true 2 (.tmp 3)), op 9 (.call 160 false (fc 163) [(.tmp 7), (.tmp 8)]) [1, 2, 1],
 op 10 (.extract (.tmp 9) 0) [3], op 11 (.extract (.tmp 9) 1) [3], op 4 (.move (.tmp 10)) ([4, 3] ++ rg 6), op 5 (.move (.tmp 11)) ([5, 6] ++ rg 7)])
  .ret))
def f121 : AFunc := ⟨2, 12, [], [.tmp 4, .tmp 5], f121_b⟩

/-! 122: hachure/hachureref10.faceDistrict -/
abbrev f122_l0 : ACode :=
  (.seq (.seq (.region [od 6 (.move (.tmp 5)), od 7 (.fieldAddr 1 (.tmp 2)), od 8 (.load false 1 (.tmp 7)), od 9 (.len (.tmp 8)),
 od 10 (.bin .lss (.tmp 6) (.tmp 9))])
  (.cond (.tmp 10)
  .skip
  (.exit 0)))
  (.seq (.block 1 (.seq (.region [od 13 (.fieldAddr 1 (.tmp 2)), od 14 (.load false 1 (.tmp 13)), od 15 (.move (.tmp 5)), od 16 (.indexAddr 5 (.tmp 14) (.tmp 15)),
 od 17 (.fieldAddr 0 (.tmp 16)), od 18 (.load false 1 (.tmp 17)), od 19 (.move (.tmp 1)), od 20 (.bin .eql (.tmp 18) (.tmp 19))])
  (.cond (.tmp 20)
  (.seq (.region [od 21 (.fieldAddr 1 (.tmp 2)), od 22 (.load false 1 (.tmp 21)), od 23 (.move (.tmp 5)), od 24 (.indexAddr 5 (.tmp 22) (.tmp 23)),
 od 25 (.fieldAddr 4 (.tmp 24)), od 26 (.load false 1 (.tmp 25)), od 4 (.move (.tmp 26))])
  .ret)
  .skip)))
  (.region [od 11 (.move (.tmp 5)), od 12 (.bin .add (.tmp 11) (ic 1)), od 5 (.move (.tmp 12))])))
def f122_b : ACode :=
  (.seq (.region [od 2 (.new 48 4 (.tmp 0)), od 4 (.move (ic 0))])
  (.seq (.seq (.region [od 5 (.move (ic 0))])
  (.block 0 (.loop f122_l0)))
  (.seq (.region [od 4 (.move (ic 0))])
  .ret)))
def f122 : AFunc := ⟨2, 27, [], [.tmp 4], f122_b⟩

/-! 123: hachure/hachureref15.Can -/
def f123_b : ACode :=
  (.seq (.region [od 3 (.new 64 4 (.tmp 0)), od 6 (.move (ic 0))])
  (.seq (.region [od 11 (.load true 4 (.tmp 3)), od 12 (.move (.tmp 1)), od 13 (.call 224 false (fc 124) [(.tmp 11), (.tmp 12)]), od 7 (.move (.tmp 13))])
  (.seq (.region [od 14 (.load true 4 (.tmp 3)), od 15 (.move (.tmp 2)), od 16 (.call 272 false (fc 124) [(.tmp 14), (.tmp 15)]), od 8 (.move (.tmp 16))])
  (.seq (.seq (.region [od 17 (.move (.tmp 7)), od 18 (.bin .lss (.tmp 17) (ic 0)), od 19 (.move (.tmp 18)), ⟨some 20, .move (.tmp 8), some (19, false), []⟩,
 ⟨some 21, .bin .lss (.tmp 20) (ic 0), some (19, false), []⟩, od 22 (.pick (.tmp 19) (.const (.bool true)) (.tmp 21))])
  (.cond (.tmp 22)
  (.seq (.region [od 6 (.move (ic 5))])
  .ret)
  .skip))
  (.seq (.region [od 23 (.fieldAddr 3 (.tmp 3)), od 24 (.load false 1 (.tmp 23)), od 25 (.move (.tmp 7)), od 26 (.indexAddr 7 (.tmp 24) (.tmp 25)),
 od 27 (.load true 7 (.tmp 26)), od 9 (.new 160 7 (.const (.agg [.int .i64 0, .int .i64 0, .int .i64 0, .str [], .str [], .int .i64 0, .int .i64 0]))), ow (.store true 7 (.tmp 9) (.tmp 27))])
  (.seq (.region [od 28 (.fieldAddr 3 (.tmp 3)), od 29 (.load false 1 (.tmp 28)), od 30 (.move (.tmp 8)), od 31 (.indexAddr 7 (.tmp 29) (.tmp 30)),
 od 32 (.load true 7 (.tmp 31)), od 10 (.new 176 7 (.const (.agg [.int .i64 0, .int .i64 0, .int .i64 0, .str [], .str [], .int .i64 0, .int .i64 0]))), ow (.store true 7 (.tmp 10) (.tmp 32))])
  (.seq (.seq (.region [od 33 (.move (.tmp 1)), od 34 (.move (.tmp 2)), od 35 (.bin .eql (.tmp 33) (.tmp 34)), od 36 (.move (.tmp 35)),
 ⟨some 37, .fieldAddr 3 (.tmp 9), some (36, false), []⟩, ⟨some 38, .load false 1 (.tmp 37), some (36, false), []⟩, ⟨some 39, .fieldAddr 3 (.tmp 10), some (36, false), []⟩, ⟨some 40, .load false 1 (.tmp 39), some (36, false), []⟩,
 ⟨some 41, .bin .neq (.tmp 38) (.tmp 40), some (36, false), []⟩, od 42 (.pick (.tmp 36) (.const (.bool true)) (.tmp 41))])
  (.cond (.tmp 42)
  (.seq (.region [od 6 (.move (ic 1))])
  .ret)
  .skip))
  (.seq (.seq (.region [od 43 (.fieldAddr 5 (.tmp 9)), od 44 (.load false 1 (.tmp 43)), od 45 (.fieldAddr 5 (.tmp 10)), od 46 (.load false 1 (.tmp 45)),
 od 47 (.bin .gtr (.tmp 44) (.tmp 46)), od 48 (.move (.tmp 47)), ⟨some 49, .fieldAddr 5 (.tmp 9), some (48, false), []⟩, ⟨some 50, .load false 1 (.tmp 49), some (48, false), []⟩,
 ⟨some 51, .fieldAddr 5 (.tmp 10), some (48, false), []⟩, ⟨some 52, .load false 1 (.tmp 51), some (48, false), []⟩, ⟨some 53, .bin .eql (.tmp 50) (.tmp 52), some (48, false), []⟩, ⟨some 54, .move (.tmp 53), some (48, false), []⟩,
 ⟨some 55, .fieldAddr 0 (.tmp 9), some (54, true), []⟩, ⟨some 56, .load false 1 (.tmp 55), some (54, true), []⟩, ⟨some 57, .fieldAddr 0 (.tmp 10), some (54, true), []⟩, ⟨some 58, .load false 1 (.tmp 57), some (54, true), []⟩,
 ⟨some 59, .bin .lss (.tmp 56) (.tmp 58), some (54, true), []⟩, ⟨some 60, .pick (.tmp 54) (.tmp 59) (.const (.bool false)), some (48, false), []⟩, od 61 (.pick (.tmp 48) (.const (.bool true)) (.tmp 60))])
  (.cond (.tmp 61)
  (.seq (.region [od 6 (.move (ic 1))])
  .ret)
  .skip))
  (.seq (.seq (.region [od 62 (.fieldAddr 6 (.tmp 9)), od 63 (.load false 1 (.tmp 62)), od 64 (.fieldAddr 6 (.tmp 10)), od 65 (.load false 1 (.tmp 64)),
 od 66 (.bin .neq (.tmp 63) (.tmp 65))])
  (.cond (.tmp 66)
  (.seq (.region [od 6 (.move (ic 25))])
  .ret)
  .skip))
  (.seq (.seq (.region [od 67 (.fieldAddr 4 (.tmp 9)), od 68 (.load false 1 (.tmp 67)), od 69 (.bin .neq (.tmp 68) (.const (.str []))), od 70 (.move (.tmp 69)),
 ⟨some 71, .fieldAddr 4 (.tmp 10), some (70, true), []⟩, ⟨some 72, .load false 1 (.tmp 71), some (70, true), []⟩, ⟨some 73, .bin .neq (.tmp 72) (.const (.str [])), some (70, true), []⟩, od 74 (.pick (.tmp 70) (.tmp 73) (.const (.bool false))),
 od 75 (.move (.tmp 74)), ⟨some 76, .fieldAddr 4 (.tmp 9), some (75, true), []⟩, ⟨some 77, .load false 1 (.tmp 76), some (75, true), []⟩, ⟨some 78, .fieldAddr 4 (.tmp 10), some (75, true), []⟩,
 ⟨some 79, .load false 1 (.tmp 78), some (75, true), []⟩, ⟨some 80, .bin .neq (.tmp 77) (.tmp 79), some (75, true), []⟩, od 81 (.pick (.tmp 75) (.tmp 80) (.const (.bool false)))])
  (.cond (.tmp 81)
  (.seq (.region [od 6 (.move (ic 24))])
  .ret)
  .skip))
  (.seq (.region [od 6 (.move (ic 0))])
  .ret)))))))))))
def f123 : AFunc := ⟨3, 82, [], [.tmp 6], f123_b⟩

/-! 124: hachure/hachureref15.Place -/
abbrev f124_l0 : ACode :=
  (.seq (.seq (.region [od 6 (.move (.tmp 5)), od 7 (.fieldAddr 3 (.tmp 2)), od 8 (.load false 1 (.tmp 7)), od 9 (.len (.tmp 8)),
 od 10 (.bin .lss (.tmp 6) (.tmp 9))])
  (.cond (.tmp 10)
  .skip
  (.exit 0)))
  (.seq (.block 1 (.seq (.region [od 13 (.fieldAddr 3 (.tmp 2)), od 14 (.load false 1 (.tmp 13)), od 15 (.move (.tmp 5)), od 16 (.indexAddr 7 (.tmp 14) (.tmp 15)),
 od 17 (.fieldAddr 0 (.tmp 16)), od 18 (.load false 1 (.tmp 17)), od 19 (.move (.tmp 1)), od 20 (.bin .eql (.tmp 18) (.tmp 19))])
  (.cond (.tmp 20)
  (.seq (.region [od 21 (.move (.tmp 5)), od 4 (.move (.tmp 21))])
  .ret)
  .skip)))
  (.region [od 11 (.move (.tmp 5)), od 12 (.bin .add (.tmp 11) (ic 1)), od 5 (.move (.tmp 12))])))
def f124_b : ACode :=
  (.seq (.region [od 2 (.new 48 4 (.tmp 0)), od 4 (.move (ic 0))])
  (.seq (.seq (.region [od 5 (.move (ic 0))])
  (.block 0 (.loop f124_l0)))
  (.seq (.region [od 4 (.move (ic (-1)))])
  .ret)))
def f124 : AFunc := ⟨2, 22, [], [.tmp 4], f124_b⟩

/-! 125: hachure/hachureref10.SameLine -/
abbrev f125_l0 : ACode :=
  (.seq (.seq (.region [od 11 (.move (.tmp 5)), od 12 (.move (.tmp 0)), od 13 (.len (.tmp 12)), od 14 (.bin .lss (.tmp 11) (.tmp 13))])
  (.cond (.tmp 14)
  .skip
  (.exit 0)))
  (.seq (.block 1 (.seq (.drawn [od 17 (.move (.tmp 0)), od 18 (.move (.tmp 5)), op 19 (.indexAddr 2 (.tmp 17) (.tmp 18)) [0, 1], op 20 (.load true 2 (.tmp 19)) [2],
 od 21 (.move (.tmp 1)), od 22 (.move (.tmp 5)), op 23 (.indexAddr 2 (.tmp 21) (.tmp 22)) [4, 5], op 24 (.load true 2 (.tmp 23)) [6],
 op 25 (.eqA true [1, 1] (.tmp 20) (.tmp 24)) [3, 7]])
  (.cond (.tmp 25)
  (.seq (.region [od 4 (.move (.const (.bool false)))])
  .ret)
  .skip)))
  (.region [od 15 (.move (.tmp 5)), od 16 (.bin .add (.tmp 15) (ic 1)), od 5 (.move (.tmp 16))])))
def f125_b : ACode :=
  (.seq (.region [od 4 (.move (.const (.bool false)))])
  (.seq (.seq (.region [od 6 (.move (.tmp 0)), od 7 (.len (.tmp 6)), od 8 (.move (.tmp 1)), od 9 (.len (.tmp 8)),
 od 10 (.bin .neq (.tmp 7) (.tmp 9))])
  (.cond (.tmp 10)
  (.seq (.region [od 4 (.move (.const (.bool false)))])
  .ret)
  .skip))
  (.seq (.seq (.region [od 5 (.move (ic 0))])
  (.block 0 (.loop f125_l0)))
  (.seq (.region [od 4 (.move (.const (.bool true)))])
  .ret))))
def f125 : AFunc := ⟨2, 26, [], [.tmp 4], f125_b⟩

/-! 126: hachure/hachureref08.Same -/
def f126_b : ACode :=
  (.seq (.region [od 2 (.new 48 8 (.tmp 0)), od 3 (.new 64 8 (.tmp 1)), od 4 (.move (.const (.bool false)))])
  (.seq (.region [od 6 (.fieldAddr 1 (.tmp 2)), od 7 (.load false 1 (.tmp 6)), od 8 (.fieldAddr 1 (.tmp 3)), od 9 (.load false 1 (.tmp 8)),
 od 10 (.call 176 false (fc 165) [(.tmp 7), (.tmp 9)]), od 5 (.move (.tmp 10))])
  (.seq (.region [od 11 (.move (.tmp 5)), od 12 (.move (.tmp 11)), ⟨some 13, .fieldAddr 0 (.tmp 2), some (12, true), []⟩, ⟨some 14, .load false 1 (.tmp 13), some (12, true), []⟩,
 ⟨some 15, .fieldAddr 0 (.tmp 3), some (12, true), []⟩, ⟨some 16, .load false 1 (.tmp 15), some (12, true), []⟩, ⟨some 17, .bin .eql (.tmp 14) (.tmp 16), some (12, true), []⟩, od 18 (.pick (.tmp 12) (.tmp 17) (.const (.bool false))),
 od 19 (.move (.tmp 18)), ⟨some 20, .fieldAddr 2 (.tmp 2), some (19, true), []⟩, ⟨some 21, .load false 1 (.tmp 20), some (19, true), []⟩, ⟨some 22, .fieldAddr 2 (.tmp 3), some (19, true), []⟩,
 ⟨some 23, .load false 1 (.tmp 22), some (19, true), []⟩, ⟨some 24, .bin .eql (.tmp 21) (.tmp 23), some (19, true), []⟩, od 25 (.pick (.tmp 19) (.tmp 24) (.const (.bool false))), od 26 (.move (.tmp 25)),
 ⟨some 27, .fieldAddr 3 (.tmp 2), some (26, true), []⟩, ⟨some 28, .load false 1 (.tmp 27), some (26, true), []⟩, ⟨some 29, .fieldAddr 3 (.tmp 3), some (26, true), []⟩, ⟨some 30, .load false 1 (.tmp 29), some (26, true), []⟩,
 ⟨some 31, .bin .eql (.tmp 28) (.tmp 30), some (26, true), []⟩, od 32 (.pick (.tmp 26) (.tmp 31) (.const (.bool false))), od 33 (.move (.tmp 32)), ⟨some 34, .fieldAddr 4 (.tmp 2), some (33, true), []⟩,
 ⟨some 35, .load false 1 (.tmp 34), some (33, true), []⟩, ⟨some 36, .fieldAddr 4 (.tmp 3), some (33, true), []⟩, ⟨some 37, .load false 1 (.tmp 36), some (33, true), []⟩, ⟨some 38, .bin .eql (.tmp 35) (.tmp 37), some (33, true), []⟩,
 od 39 (.pick (.tmp 33) (.tmp 38) (.const (.bool false))), od 40 (.move (.tmp 39)), ⟨some 41, .fieldAddr 5 (.tmp 2), some (40, true), []⟩, ⟨some 42, .load false 1 (.tmp 41), some (40, true), []⟩,
 ⟨some 43, .fieldAddr 5 (.tmp 3), some (40, true), []⟩, ⟨some 44, .load false 1 (.tmp 43), some (40, true), []⟩, ⟨some 45, .eqB false (.tmp 42) (.tmp 44), some (40, true), []⟩, od 46 (.pick (.tmp 40) (.tmp 45) (.const (.bool false))),
 od 47 (.move (.tmp 46)), ⟨some 48, .fieldAddr 6 (.tmp 2), some (47, true), []⟩, ⟨some 49, .load false 1 (.tmp 48), some (47, true), []⟩, ⟨some 50, .fieldAddr 6 (.tmp 3), some (47, true), []⟩,
 ⟨some 51, .load false 1 (.tmp 50), some (47, true), []⟩, ⟨some 52, .bin .eql (.tmp 49) (.tmp 51), some (47, true), []⟩, od 53 (.pick (.tmp 47) (.tmp 52) (.const (.bool false))), od 54 (.move (.tmp 53)),
 ⟨some 55, .fieldAddr 7 (.tmp 2), some (54, true), []⟩, ⟨some 56, .load false 1 (.tmp 55), some (54, true), []⟩, ⟨some 57, .fieldAddr 7 (.tmp 3), some (54, true), []⟩, ⟨some 58, .load false 1 (.tmp 57), some (54, true), []⟩,
 ⟨some 59, .bin .eql (.tmp 56) (.tmp 58), some (54, true), []⟩, od 60 (.pick (.tmp 54) (.tmp 59) (.const (.bool false))), od 4 (.move (.tmp 60))])
  .ret)))
def f126 : AFunc := ⟨2, 61, [], [.tmp 4], f126_b⟩

/-! 127: hachure/hachureref01.Sqrt -/
abbrev f127_l0 : ACode :=
  (.seq (.seq (.region [od 6 (.move (.tmp 4)), od 7 (.bin .geq (.tmp 6) (ic 0))])
  (.cond (.tmp 7)
  .skip
  (.exit 0)))
  (.seq (.block 1 (.seq (.region [od 10 (.move (.tmp 3)), od 11 (.move (.tmp 4)), od 12 (.bin .shl (ic 1) (.tmp 11)), od 13 (.bin .add (.tmp 10) (.tmp 12)),
 od 5 (.move (.tmp 13))])
  (.seq (.region [od 14 (.move (.tmp 5)), od 15 (.bin .leq (.tmp 14) (ic 3037000499)), od 16 (.move (.tmp 15)), ⟨some 17, .move (.tmp 5), some (16, true), []⟩,
 ⟨some 18, .move (.tmp 5), some (16, true), []⟩, ⟨some 19, .bin .mul (.tmp 17) (.tmp 18), some (16, true), []⟩, ⟨some 20, .move (.tmp 0), some (16, true), []⟩, ⟨some 21, .bin .leq (.tmp 19) (.tmp 20), some (16, true), []⟩,
 od 22 (.pick (.tmp 16) (.tmp 21) (.const (.bool false)))])
  (.cond (.tmp 22)
  (.region [od 23 (.move (.tmp 5)), od 3 (.move (.tmp 23))])
  .skip))))
  (.region [od 8 (.move (.tmp 4)), od 9 (.bin .sub (.tmp 8) (ic 1)), od 4 (.move (.tmp 9))])))
def f127_b : ACode :=
  (.seq (.region [od 2 (.move (ic 0))])
  (.seq (.region [od 3 (.move (ic 0))])
  (.seq (.seq (.region [od 4 (.move (ic 31))])
  (.block 0 (.loop f127_l0)))
  (.seq (.region [od 24 (.move (.tmp 3)), od 2 (.move (.tmp 24))])
  .ret))))
def f127 : AFunc := ⟨1, 25, [], [.tmp 2], f127_b⟩

/-! 128: hachure/hachureref15.square -/
def f128_b : ACode :=
  (.seq (.region [od 2 (.new 48 2 (.tmp 0)), od 3 (.new 64 2 (.tmp 1)), od 4 (.move (ic 0))])
  (.seq (.region [od 6 (.load true 2 (.tmp 2)), od 7 (.load true 2 (.tmp 3)), od 8 (.call 144 false (fc 161) [(.tmp 6), (.tmp 7)]), od 5 (.new 96 2 (.const (.agg [.int .i64 0, .int .i64 0]))),
 ow (.store true 2 (.tmp 5) (.tmp 8))])
  (.seq (.region [od 9 (.load true 2 (.tmp 5)), od 10 (.load true 2 (.tmp 5)), od 11 (.call 192 false (fc 166) [(.tmp 9), (.tmp 10)]), od 4 (.move (.tmp 11))])
  .ret)))
def f128 : AFunc := ⟨2, 12, [], [.tmp 4], f128_b⟩

/-! 129: hachure/hachureref15.nearest -/
abbrev f129_l0 : ACode :=
  (.seq (.seq (.region [od 11 (.move (.tmp 7)), od 12 (.fieldAddr 3 (.tmp 2)), od 13 (.load false 1 (.tmp 12)), od 14 (.len (.tmp 13)),
 od 15 (.bin .lss (.tmp 11) (.tmp 14))])
  (.cond (.tmp 15)
  .skip
  (.exit 0)))
  (.seq (.block 1 (.seq (.region [od 18 (.fieldAddr 3 (.tmp 2)), od 19 (.load false 1 (.tmp 18)), od 20 (.move (.tmp 7)), od 21 (.indexAddr 7 (.tmp 19) (.tmp 20)),
 od 22 (.load true 7 (.tmp 21)), od 8 (.new 144 7 (.const (.agg [.int .i64 0, .int .i64 0, .int .i64 0, .str [], .str [], .int .i64 0, .int .i64 0]))), ow (.store true 7 (.tmp 8) (.tmp 22))])
  (.seq (.seq (.region [od 23 (.load true 4 (.tmp 2)), od 24 (.fieldAddr 0 (.tmp 8)), od 25 (.load false 1 (.tmp 24)), od 26 (.call 432 false (fc 124) [(.tmp 23), (.tmp 25)]),
 od 27 (.move (.tmp 7)), od 28 (.bin .neq (.tmp 26) (.tmp 27)), od 29 (.move (.tmp 28)), ⟨some 30, .load true 4 (.tmp 2), some (29, false), []⟩,
 ⟨some 31, .fieldAddr 0 (.tmp 3), some (29, false), []⟩, ⟨some 32, .load false 1 (.tmp 31), some (29, false), []⟩, ⟨some 33, .fieldAddr 0 (.tmp 8), some (29, false), []⟩, ⟨some 34, .load false 1 (.tmp 33), some (29, false), []⟩,
 ⟨some 35, .call 576 false (fc 123) [(.tmp 30), (.tmp 32), (.tmp 34)], some (29, false), []⟩, ⟨some 36, .bin .neq (.tmp 35) (ic 0), some (29, false), []⟩, od 37 (.pick (.tmp 29) (.const (.bool true)) (.tmp 36))])
  (.cond (.tmp 37)
  (.exit 1)
  .skip))
  (.seq (.seq (.region [od 38 (.move (.tmp 6)), od 39 (.bin .lss (.tmp 38) (ic 0))])
  (.cond (.tmp 39)
  (.seq (.region [od 40 (.move (.tmp 7)), od 6 (.move (.tmp 40))])
  (.exit 1))
  .skip))
  (.seq (.region [od 41 (.fieldAddr 1 (.tmp 3)), od 42 (.load true 2 (.tmp 41)), od 43 (.fieldAddr 1 (.tmp 8)), od 44 (.load true 2 (.tmp 43)),
 od 45 (.call 736 false (fc 128) [(.tmp 42), (.tmp 44)]), od 9 (.move (.tmp 45))])
  (.seq (.drawn [od 46 (.fieldAddr 1 (.tmp 3)), op 47 (.load true 2 (.tmp 46)) [0], od 48 (.fieldAddr 3 (.tmp 2)), op 49 (.load false 1 (.tmp 48)) [2],
 od 50 (.move (.tmp 6)), op 51 (.indexAddr 7 (.tmp 49) (.tmp 50)) [3, 4], op 52 (.fieldAddr 1 (.tmp 51)) [5], op 53 (.load true 2 (.tmp 52)) [6],
 op 54 (.call 880 false (fc 128) [(.tmp 47), (.tmp 53)]) [1, 7], op 10 (.move (.tmp 54)) ([8, 8] ++ rg 9)])
  (.seq (.drawn [od 55 (.move (.tmp 9)), od 56 (.move (.tmp 10)), op 57 (.bin .lss (.tmp 55) (.tmp 56)) [0, 1], op 58 (.move (.tmp 57)) [2],
 ⟨some 59, .move (.tmp 9), some (58, false), [3]⟩, ⟨some 60, .move (.tmp 10), some (58, false), [3]⟩, ⟨some 61, .bin .eql (.tmp 59) (.tmp 60), some (58, false), [4, 5, 3]⟩, ⟨some 62, .move (.tmp 61), some (58, false), [6, 3, 3]⟩,
 ⟨some 63, .fieldAddr 0 (.tmp 8), some (62, true), [7]⟩, ⟨some 64, .load false 1 (.tmp 63), some (62, true), [8, 7]⟩, ⟨some 65, .fieldAddr 3 (.tmp 2), some (62, true), [7]⟩, ⟨some 66, .load false 1 (.tmp 65), some (62, true), [10, 7]⟩,
 ⟨some 67, .move (.tmp 6), some (62, true), [7]⟩, ⟨some 68, .indexAddr 7 (.tmp 66) (.tmp 67), some (62, true), [11, 12, 7]⟩, ⟨some 69, .fieldAddr 0 (.tmp 68), some (62, true), [13, 7]⟩, ⟨some 70, .load false 1 (.tmp 69), some (62, true), [14, 7]⟩,
 ⟨some 71, .bin .lss (.tmp 64) (.tmp 70), some (62, true), [9, 15, 7]⟩, ⟨some 72, .pick (.tmp 62) (.tmp 71) (.const (.bool false)), some (58, false), [7, 16, 3]⟩, op 73 (.pick (.tmp 58) (.const (.bool true)) (.tmp 72)) [3, 17]])
  (.cond (.tmp 73)
  (.region [od 74 (.move (.tmp 7)), od 6 (.move (.tmp 74))])
  .skip))))))))
  (.region [od 16 (.move (.tmp 7)), od 17 (.bin .add (.tmp 16) (ic 1)), od 7 (.move (.tmp 17))])))
def f129_b : ACode :=
  (.seq (.region [od 2 (.new 48 4 (.tmp 0)), od 3 (.new 64 7 (.tmp 1)), od 4 (.move (ic 0)), od 5 (.move (.const (.bool false)))])
  (.seq (.region [od 6 (.move (ic (-1)))])
  (.seq (.seq (.region [od 7 (.move (ic 0))])
  (.block 0 (.loop f129_l0)))
  (.seq (.seq (.region [od 75 (.move (.tmp 6)), od 76 (.bin .lss (.tmp 75) (ic 0))])
  (.cond (.tmp 76)
  (.seq (.region [od 4 (.move (ic 0)), od 5 (.move (.const (.bool false)))])
  .ret)
  .skip))
  (.seq (.region [od 77 (.fieldAddr 3 (.tmp 2)), od 78 (.load false 1 (.tmp 77)), od 79 (.move (.tmp 6)), od 80 (.indexAddr 7 (.tmp 78) (.tmp 79)),
 od 81 (.fieldAddr 0 (.tmp 80)), od 82 (.load false 1 (.tmp 81)), od 4 (.move (.tmp 82)), od 5 (.move (.const (.bool true)))])
  .ret)))))
def f129 : AFunc := ⟨2, 83, [], [.tmp 4, .tmp 5], f129_b⟩

/-! 130: hachure/hachureref10.line -/
def f130_b : ACode :=
  (.seq (.region [od 2 (.move (.const (.lit 2 [])))])
  (.seq (.region [od 3 (.buildSlice 64 2 (.agg [.int .i64 0, .int .i64 0]) 0 []), od 4 (.move (.tmp 0)), od 5 (.append 96 2 8278675785407 (.tmp 3) (.tmp 4)), od 2 (.move (.tmp 5))])
  .ret))
def f130 : AFunc := ⟨1, 6, [], [.tmp 2], f130_b⟩

/-! 131: hachure/hachureref07.Turned -/
abbrev f131_l0 : ACode :=
  (.seq (.seq (.region [od 16 (.move (.tmp 4)), od 17 (.bin .geq (.tmp 16) (ic 0))])
  (.cond (.tmp 17)
  .skip
  (.exit 0)))
  (.seq (.block 1 (.drawn [od 20 (.fieldAddr 1 (.tmp 3)), op 21 (.load false 1 (.tmp 20)) [0], od 22 (.fieldAddr 1 (.tmp 1)), op 23 (.load false 1 (.tmp 22)) [2],
 od 24 (.move (.tmp 4)), op 25 (.indexAddr 2 (.tmp 23) (.tmp 24)) [3, 4], op 26 (.load true 2 (.tmp 25)) [5], op 27 (.buildSlice 448 2 (.agg [.int .i64 0, .int .i64 0]) 1 [(0, (.tmp 26))]) [6],
 op 28 (.append 67 2 8278675785407 (.tmp 21) (.tmp 27)) [1, 7], op 29 (.fieldAddr 1 (.tmp 3)) (rg 9), ⟨none, .store false 1 (.tmp 29) (.tmp 28), none, ([9, 8, 8] ++ rg 9)⟩]))
  (.region [od 18 (.move (.tmp 4)), od 19 (.bin .sub (.tmp 18) (ic 1)), od 4 (.move (.tmp 19))])))
def f131_b : ACode :=
  (.seq (.region [od 1 (.new 32 4 (.tmp 0)), od 2 (.new 48 4 (.const (.agg [.int .i64 0, .lit 2 [], .int .i64 0, .int .i64 0])))])
  (.seq (.region [od 5 (.fieldAddr 0 (.tmp 1)), od 6 (.load false 1 (.tmp 5)), od 7 (.fieldAddr 3 (.tmp 1)), od 8 (.load false 1 (.tmp 7)),
 od 9 (.fieldAddr 2 (.tmp 1)), od 10 (.load false 1 (.tmp 9)), od 11 (.build [.int .i64 0, .nils, .int .i64 0, .int .i64 0] [(0, 1, (.tmp 6)), (2, 1, (.tmp 8)), (3, 1, (.tmp 10))]), od 3 (.new 64 4 (.const (.agg [.int .i64 0, .nils, .int .i64 0, .int .i64 0]))),
 ow (.store true 4 (.tmp 3) (.tmp 11))])
  (.seq (.seq (.region [od 12 (.fieldAddr 1 (.tmp 1)), od 13 (.load false 1 (.tmp 12)), od 14 (.len (.tmp 13)), od 15 (.bin .sub (.tmp 14) (ic 1)),
 od 4 (.move (.tmp 15))])
  (.block 0 (.loop f131_l0)))
  (.seq (.region [od 30 (.load true 4 (.tmp 3)), ow (.store true 4 (.tmp 2) (.tmp 30))])
  .ret))))
def f131 : AFunc := ⟨1, 31, [], [.cell 2 true 4], f131_b⟩

/-! 41: math.Sqrt -/
def f41_b : ACode :=
  (.seq (.region [od 2 (.move (.const (.float 0)))])
  (.seq (.region [od 3 (.move (.tmp 0)), od 4 (.call 80 false (fc 52) [(.tmp 3)]), od 2 (.move (.tmp 4))])
  .ret))
def f41 : AFunc := ⟨1, 5, [], [.tmp 2], f41_b⟩

/-! 37: hachure/point.Sub -/
def f37_b : ACode :=
  (.seq (.region [od 2 (.new 48 2 (.tmp 0)), od 3 (.new 64 2 (.tmp 1)), od 4 (.new 80 2 (.const (.agg [.int .i64 0, .int .i64 0])))])
  (.seq (.region [od 5 (.fieldAddr 0 (.tmp 2)), od 6 (.load false 1 (.tmp 5)), od 7 (.fieldAddr 0 (.tmp 3)), od 8 (.load false 1 (.tmp 7)),
 od 9 (.bin .sub (.tmp 6) (.tmp 8)), od 10 (.fieldAddr 1 (.tmp 2)), od 11 (.load false 1 (.tmp 10)), od 12 (.fieldAddr 1 (.tmp 3)),
 od 13 (.load false 1 (.tmp 12)), od 14 (.bin .sub (.tmp 11) (.tmp 13)), od 15 (.build [.int .i64 0, .int .i64 0] [(0, 1, (.tmp 9)), (1, 1, (.tmp 14))]), ow (.store true 2 (.tmp 4) (.tmp 15))])
  .ret))
def f37 : AFunc := ⟨2, 16, [], [.cell 4 true 2], f37_b⟩

/-! 38: hachure/point.Dot -/
def f38_b : ACode :=
  (.seq (.region [od 2 (.new 48 2 (.tmp 0)), od 3 (.new 64 2 (.tmp 1)), od 4 (.move (ic 0))])
  (.seq (.region [od 5 (.fieldAddr 0 (.tmp 2)), od 6 (.load false 1 (.tmp 5)), od 7 (.fieldAddr 0 (.tmp 3)), od 8 (.load false 1 (.tmp 7)),
 od 9 (.bin .mul (.tmp 6) (.tmp 8)), od 10 (.fieldAddr 1 (.tmp 2)), od 11 (.load false 1 (.tmp 10)), od 12 (.fieldAddr 1 (.tmp 3)),
 od 13 (.load false 1 (.tmp 12)), od 14 (.bin .mul (.tmp 11) (.tmp 13)), od 15 (.bin .add (.tmp 9) (.tmp 14)), od 4 (.move (.tmp 15))])
  .ret))
def f38 : AFunc := ⟨2, 16, [], [.tmp 4], f38_b⟩

/-! 33: slices.IndexFunc[[]hachure/api.Place,hachure/api.Place] -/
abbrev f33_l0 : ACode :=
  (.seq (.region [od 9 (.bin .lss (.tmp 8) (.tmp 7))])
  (.seq (.cond (.tmp 9)
  .skip
  (.exit 0))
  (.seq (.block 1 (.seq (.region [od 10 (.move (.tmp 8)), od 5 (.move (.tmp 10))])
  (.seq (.region [od 11 (.move (.tmp 1)), od 12 (.move (.tmp 0)), od 13 (.move (.tmp 5)), od 14 (.indexAddr 7 (.tmp 12) (.tmp 13)),
 od 15 (.load true 7 (.tmp 14)), od 16 (.call 272 false (.tmp 11) [(.tmp 15)])])
  (.cond (.tmp 16)
  (.seq (.region [od 17 (.move (.tmp 5)), od 4 (.move (.tmp 17))])
  .ret)
  .skip))))
  (.region [od 18 (.bin .add (.tmp 8) (ic 1)), od 8 (.move (.tmp 18))]))))
def f33_b : ACode :=
  (.seq (.region [od 4 (.move (ic 0))])
  (.seq (.seq (.region [od 6 (.move (.tmp 0)), od 7 (.len (.tmp 6)), od 8 (.move (ic 0))])
  (.block 0 (.loop f33_l0)))
  (.seq (.region [od 4 (.move (ic (-1)))])
  .ret)))
def f33 : AFunc := ⟨2, 19, [], [.tmp 4], f33_b⟩

/-! 34: hachure/gather.find$1 -/
def f34_b : ACode :=
  (.seq (.region [od 2 (.new 48 7 (.tmp 0)), od 3 (.move (.const (.bool false)))])
  (.seq (.region [od 4 (.fieldAddr 0 (.tmp 2)), od 5 (.load false 1 (.tmp 4)), od 6 (.load false 1 (.tmp 1)), od 7 (.bin .eql (.tmp 5) (.tmp 6)),
 od 3 (.move (.tmp 7))])
  .ret))
def f34 : AFunc := ⟨2, 8, [], [.tmp 3], f34_b⟩

/-! 35: slices.MinFunc[[]hachure/api.Place,hachure/api.Place] -/
abbrev f35_l0 : ACode :=
  (.seq (.seq (.region [od 14 (.move (.tmp 6)), od 15 (.move (.tmp 0)), od 16 (.len (.tmp 15)), od 17 (.bin .lss (.tmp 14) (.tmp 16))])
  (.cond (.tmp 17)
  .skip
  (.exit 0)))
  (.seq (.block 1 (.seq (.drawn [od 20 (.move (.tmp 1)), od 21 (.move (.tmp 0)), od 22 (.move (.tmp 6)), op 23 (.indexAddr 7 (.tmp 21) (.tmp 22)) [1, 2],
 op 24 (.load true 7 (.tmp 23)) [3], od 25 (.load true 7 (.tmp 5)), op 26 (.call 432 false (.tmp 20) [(.tmp 24), (.tmp 25)]) [0, 4, 5], op 27 (.bin .lss (.tmp 26) (ic 0)) [6]])
  (.cond (.tmp 27)
  (.region [od 28 (.move (.tmp 0)), od 29 (.move (.tmp 6)), od 30 (.indexAddr 7 (.tmp 28) (.tmp 29)), od 31 (.load true 7 (.tmp 30)),
 ow (.store true 7 (.tmp 5) (.tmp 31))])
  .skip)))
  (.region [od 18 (.move (.tmp 6)), od 19 (.bin .add (.tmp 18) (ic 1)), od 6 (.move (.tmp 19))])))
def f35_b : ACode :=
  (.seq (.region [od 4 (.new 80 7 (.const (.agg [.int .i64 0, .int .i64 0, .int .i64 0, .str [], .str [], .int .i64 0, .int .i64 0])))])
  (.seq (.seq (.region [od 7 (.move (.tmp 0)), od 8 (.len (.tmp 7)), od 9 (.bin .lss (.tmp 8) (ic 1))])
  (.cond (.tmp 9)
  (.region [od 10 (.mkIface 9 (.const (.str [115, 108, 105, 99, 101, 115, 46, 77, 105, 110, 70, 117, 110, 99, 58, 32, 101, 109, 112, 116, 121, 32, 108, 105, 115, 116]))), ow (.bad)])
  .skip))
  (.seq (.region [od 11 (.move (.tmp 0)), od 12 (.indexAddr 7 (.tmp 11) (ic 0)), od 13 (.load true 7 (.tmp 12)), od 5 (.new 96 7 (.const (.agg [.int .i64 0, .int .i64 0, .int .i64 0, .str [], .str [], .int .i64 0, .int .i64 0]))),
 ow (.store true 7 (.tmp 5) (.tmp 13))])
  (.seq (.seq (.region [od 6 (.move (ic 1))])
  (.block 0 (.loop f35_l0)))
  (.seq (.region [od 32 (.load true 7 (.tmp 5)), ow (.store true 7 (.tmp 4) (.tmp 32))])
  .ret)))))
def f35 : AFunc := ⟨2, 33, [], [.cell 4 true 7], f35_b⟩

/-! 36: cmp.isNaN[int] -/
def f36_b : ACode :=
  (.seq (.region [od 2 (.move (.const (.bool false)))])
  (.seq (.region [od 3 (.move (.tmp 0)), od 4 (.move (.tmp 0)), od 5 (.bin .neq (.tmp 3) (.tmp 4)), od 2 (.move (.tmp 5))])
  .ret))
def f36 : AFunc := ⟨1, 6, [], [.tmp 2], f36_b⟩

/-! 39: slices.pdqsortCmpFunc[hachure/api.Event] -/
abbrev f39_l0 : ACode :=
  (.block 1 (.seq (.region [od 21 (.move (.tmp 2)), od 22 (.move (.tmp 1)), od 23 (.bin .sub (.tmp 21) (.tmp 22)), od 12 (.move (.tmp 23))])
  (.seq (.seq (.region [od 24 (.move (.tmp 12)), od 25 (.bin .leq (.tmp 24) (ic 12))])
  (.cond (.tmp 25)
  (.seq (.region [od 26 (.move (.tmp 0)), od 27 (.move (.tmp 1)), od 28 (.move (.tmp 2)), od 29 (.move (.tmp 4)),
 od 30 (.call 496 false (fc 42) [(.tmp 26), (.tmp 27), (.tmp 28), (.tmp 29)])])
  .ret)
  .skip))
  (.seq (.seq (.region [od 31 (.move (.tmp 3)), od 32 (.bin .eql (.tmp 31) (ic 0))])
  (.cond (.tmp 32)
  (.seq (.region [od 33 (.move (.tmp 0)), od 34 (.move (.tmp 1)), od 35 (.move (.tmp 2)), od 36 (.move (.tmp 4)),
 od 37 (.call 608 false (fc 43) [(.tmp 33), (.tmp 34), (.tmp 35), (.tmp 36)])])
  .ret)
  .skip))
  (.seq (.seq (.region [od 38 (.move (.tmp 10)), od 39 (.un .not (.tmp 38))])
  (.cond (.tmp 39)
  (.seq (.region [od 40 (.move (.tmp 0)), od 41 (.move (.tmp 1)), od 42 (.move (.tmp 2)), od 43 (.move (.tmp 4)),
 od 44 (.call 720 false (fc 44) [(.tmp 40), (.tmp 41), (.tmp 42), (.tmp 43)])])
  (.region [od 45 (.move (.tmp 3)), od 46 (.bin .sub (.tmp 45) (ic 1)), od 3 (.move (.tmp 46))]))
  .skip))
  (.seq (.region [od 48 (.move (.tmp 0)), od 49 (.move (.tmp 1)), od 50 (.move (.tmp 2)), od 51 (.move (.tmp 4)),
 od 52 (.call 848 false (fc 45) [(.tmp 48), (.tmp 49), (.tmp 50), (.tmp 51)]), od 47 (.move (.tmp 52)), od 53 (.extract (.tmp 47) 0), od 54 (.extract (.tmp 47) 1),
 od 13 (.move (.tmp 53)), od 14 (.move (.tmp 54))])
  (.seq (.seq (.region [od 55 (.move (.tmp 14)), od 56 (.bin .eql (.tmp 55) (ic 2))])
  (.cond (.tmp 56)
  (.seq (.region [od 57 (.move (.tmp 0)), od 58 (.move (.tmp 1)), od 59 (.move (.tmp 2)), od 60 (.move (.tmp 4)),
 od 61 (.call 992 false (fc 46) [(.tmp 57), (.tmp 58), (.tmp 59), (.tmp 60)])])
  (.seq (.region [od 62 (.move (.tmp 2)), od 63 (.bin .sub (.tmp 62) (ic 1)), od 64 (.move (.tmp 13)), od 65 (.move (.tmp 1)),
 od 66 (.bin .sub (.tmp 64) (.tmp 65)), od 67 (.bin .sub (.tmp 63) (.tmp 66)), od 13 (.move (.tmp 67))])
  (.region [od 14 (.move (ic 1))])))
  .skip))
  (.seq (.seq (.region [od 68 (.move (.tmp 10)), od 69 (.move (.tmp 68)), ⟨some 70, .move (.tmp 11), some (69, true), []⟩, od 71 (.pick (.tmp 69) (.tmp 70) (.const (.bool false))),
 od 72 (.move (.tmp 71)), ⟨some 73, .move (.tmp 14), some (72, true), []⟩, ⟨some 74, .bin .eql (.tmp 73) (ic 1), some (72, true), []⟩, od 75 (.pick (.tmp 72) (.tmp 74) (.const (.bool false)))])
  (.cond (.tmp 75)
  (.seq (.region [od 76 (.move (.tmp 0)), od 77 (.move (.tmp 1)), od 78 (.move (.tmp 2)), od 79 (.move (.tmp 4)),
 od 80 (.call 1296 false (fc 47) [(.tmp 76), (.tmp 77), (.tmp 78), (.tmp 79)])])
  (.cond (.tmp 80)
  .ret
  .skip))
  .skip))
  (.seq (.seq (.drawn [od 81 (.move (.tmp 1)), op 82 (.bin .gtr (.tmp 81) (ic 0)) [0], op 83 (.move (.tmp 82)) [1], ⟨some 84, .move (.tmp 4), some (83, true), [2]⟩,
 ⟨some 85, .move (.tmp 0), some (83, true), [2]⟩, ⟨some 86, .move (.tmp 1), some (83, true), [2]⟩, ⟨some 87, .bin .sub (.tmp 86) (ic 1), some (83, true), [5, 2]⟩, ⟨some 88, .indexAddr 5 (.tmp 85) (.tmp 87), some (83, true), [4, 6, 2]⟩,
 ⟨some 89, .load true 5 (.tmp 88), some (83, true), [7, 2]⟩, ⟨some 90, .move (.tmp 0), some (83, true), [2]⟩, ⟨some 91, .move (.tmp 13), some (83, true), [2]⟩, ⟨some 92, .indexAddr 5 (.tmp 90) (.tmp 91), some (83, true), [9, 10, 2]⟩,
 ⟨some 93, .load true 5 (.tmp 92), some (83, true), [11, 2]⟩, ⟨some 94, .call 1520 false (.tmp 84) [(.tmp 89), (.tmp 93)], some (83, true), [3, 8, 12, 2, 2]⟩, ⟨some 95, .bin .lss (.tmp 94) (ic 0), some (83, true), [13, 2]⟩, ⟨some 96, .un .not (.tmp 95), some (83, true), [14, 2]⟩,
 op 97 (.pick (.tmp 83) (.tmp 96) (.const (.bool false))) [2, 15]])
  (.cond (.tmp 97)
  (.seq (.region [od 98 (.move (.tmp 0)), od 99 (.move (.tmp 1)), od 100 (.move (.tmp 2)), od 101 (.move (.tmp 13)),
 od 102 (.move (.tmp 4)), od 103 (.call 1664 false (fc 48) [(.tmp 98), (.tmp 99), (.tmp 100), (.tmp 101), (.tmp 102)]), od 15 (.move (.tmp 103))])
  (.seq (.region [od 104 (.move (.tmp 15)), od 1 (.move (.tmp 104))])
  (.exit 1)))
  .skip))
  (.seq (.region [od 106 (.move (.tmp 0)), od 107 (.move (.tmp 1)), od 108 (.move (.tmp 2)), od 109 (.move (.tmp 13)),
 od 110 (.move (.tmp 4)), od 111 (.call 1792 false (fc 49) [(.tmp 106), (.tmp 107), (.tmp 108), (.tmp 109), (.tmp 110)]), od 105 (.move (.tmp 111)), od 112 (.extract (.tmp 105) 0),
 od 113 (.extract (.tmp 105) 1), od 16 (.move (.tmp 112)), od 17 (.move (.tmp 113))])
  (.seq (.region [od 114 (.move (.tmp 17)), od 11 (.move (.tmp 114))])
  (.seq (.region [od 115 (.move (.tmp 16)), od 116 (.move (.tmp 1)), od 117 (.bin .sub (.tmp 115) (.tmp 116)), od 118 (.move (.tmp 2)),
 od 119 (.move (.tmp 16)), od 120 (.bin .sub (.tmp 118) (.tmp 119)), od 18 (.move (.tmp 117)), od 19 (.move (.tmp 120))])
  (.seq (.region [od 121 (.move (.tmp 12)), od 122 (.bin .quo (.tmp 121) (ic 8)), od 20 (.move (.tmp 122))])
  (.seq (.region [od 123 (.move (.tmp 18)), od 124 (.move (.tmp 19)), od 125 (.bin .lss (.tmp 123) (.tmp 124))])
  (.cond (.tmp 125)
  (.seq (.region [od 126 (.move (.tmp 18)), od 127 (.move (.tmp 20)), od 128 (.bin .geq (.tmp 126) (.tmp 127)), od 10 (.move (.tmp 128))])
  (.seq (.region [od 129 (.move (.tmp 0)), od 130 (.move (.tmp 1)), od 131 (.move (.tmp 16)), od 132 (.move (.tmp 3)),
 od 133 (.move (.tmp 4)), od 134 (.call 2160 false (fc 39) [(.tmp 129), (.tmp 130), (.tmp 131), (.tmp 132), (.tmp 133)])])
  (.region [od 135 (.move (.tmp 16)), od 136 (.bin .add (.tmp 135) (ic 1)), od 1 (.move (.tmp 136))])))
  (.seq (.region [od 137 (.move (.tmp 19)), od 138 (.move (.tmp 20)), od 139 (.bin .geq (.tmp 137) (.tmp 138)), od 10 (.move (.tmp 139))])
  (.seq (.region [od 140 (.move (.tmp 0)), od 141 (.move (.tmp 16)), od 142 (.bin .add (.tmp 141) (ic 1)), od 143 (.move (.tmp 2)),
 od 144 (.move (.tmp 3)), od 145 (.move (.tmp 4)), od 146 (.call 2352 false (fc 39) [(.tmp 140), (.tmp 142), (.tmp 143), (.tmp 144), (.tmp 145)])])
  (.region [od 147 (.move (.tmp 16)), od 2 (.move (.tmp 147))]))))))))))))))))))
def f39_b : ACode :=
  (.seq (.region [od 10 (.move (.const (.bool true)))])
  (.seq (.region [od 11 (.move (.const (.bool true)))])
  (.block 0 (.loop f39_l0))))
def f39 : AFunc := ⟨5, 148, [some 5, none, none, none, none], [], f39_b⟩

/-! 40: math/bits.Len -/
def f40_b : ACode :=
  (.seq (.region [od 2 (.move (ic 0))])
  (.seq (.cond (.const (.bool false))
  (.seq (.region [od 3 (.move (.tmp 0)), od 4 (.convInt .u32 (.tmp 3)), od 5 (.call 96 false (fc 50) [(.tmp 4)]), od 2 (.move (.tmp 5))])
  .ret)
  .skip)
  (.seq (.region [od 6 (.move (.tmp 0)), od 7 (.call 128 false (fc 51) [(.tmp 6)]), od 2 (.move (.tmp 7))])
  .ret)))
def f40 : AFunc := ⟨1, 8, [], [.tmp 2], f40_b⟩

/-! 161: hachure/hachureref04.Sub -/
def f161_b : ACode :=
  (.seq (.region [od 2 (.new 48 2 (.tmp 0)), od 3 (.new 64 2 (.tmp 1)), od 4 (.new 80 2 (.const (.agg [.int .i64 0, .int .i64 0])))])
  (.seq (.region [od 5 (.fieldAddr 0 (.tmp 2)), od 6 (.load false 1 (.tmp 5)), od 7 (.fieldAddr 0 (.tmp 3)), od 8 (.load false 1 (.tmp 7)),
 od 9 (.bin .sub (.tmp 6) (.tmp 8)), od 10 (.fieldAddr 1 (.tmp 2)), od 11 (.load false 1 (.tmp 10)), od 12 (.fieldAddr 1 (.tmp 3)),
 od 13 (.load false 1 (.tmp 12)), od 14 (.bin .sub (.tmp 11) (.tmp 13)), od 15 (.build [.int .i64 0, .int .i64 0] [(0, 1, (.tmp 9)), (1, 1, (.tmp 14))]), ow (.store true 2 (.tmp 4) (.tmp 15))])
  .ret))
def f161 : AFunc := ⟨2, 16, [], [.cell 4 true 2], f161_b⟩

/-! 162: hachure/hachureref07.Put -/
abbrev f162_l0 : ACode :=
  (.seq (.seq (.region [od 9 (.move (.tmp 5)), od 10 (.bin .gtr (.tmp 9) (ic 0)), od 11 (.move (.tmp 10)), ⟨some 12, .move (.tmp 0), some (11, true), []⟩,
 ⟨some 13, .move (.tmp 5), some (11, true), []⟩, ⟨some 14, .bin .sub (.tmp 13) (ic 1), some (11, true), []⟩, ⟨some 15, .indexAddr 1 (.tmp 12) (.tmp 14), some (11, true), []⟩, ⟨some 16, .load false 1 (.tmp 15), some (11, true), []⟩,
 ⟨some 17, .move (.tmp 1), some (11, true), []⟩, ⟨some 18, .bin .geq (.tmp 16) (.tmp 17), some (11, true), []⟩, od 19 (.pick (.tmp 11) (.tmp 18) (.const (.bool false)))])
  (.cond (.tmp 19)
  .skip
  (.exit 0)))
  (.block 1 (.region [od 20 (.move (.tmp 5)), od 21 (.bin .sub (.tmp 20) (ic 1)), od 5 (.move (.tmp 21))])))
def f162_b : ACode :=
  (.seq (.region [od 4 (.move (.const (.lit 1 [])))])
  (.seq (.region [od 7 (.move (.tmp 0)), od 8 (.len (.tmp 7)), od 5 (.move (.tmp 8))])
  (.seq (.block 0 (.loop f162_l0))
  (.seq (.seq (.region [od 22 (.move (.tmp 5)), od 23 (.move (.tmp 0)), od 24 (.len (.tmp 23)), od 25 (.bin .lss (.tmp 22) (.tmp 24)),
 od 26 (.move (.tmp 25)), ⟨some 27, .move (.tmp 0), some (26, true), []⟩, ⟨some 28, .move (.tmp 5), some (26, true), []⟩, ⟨some 29, .indexAddr 1 (.tmp 27) (.tmp 28), some (26, true), []⟩,
 ⟨some 30, .load false 1 (.tmp 29), some (26, true), []⟩, ⟨some 31, .move (.tmp 1), some (26, true), []⟩, ⟨some 32, .bin .eql (.tmp 30) (.tmp 31), some (26, true), []⟩, od 33 (.pick (.tmp 26) (.tmp 32) (.const (.bool false)))])
  (.cond (.tmp 33)
  (.seq (.region [od 34 (.move (.tmp 0)), od 4 (.move (.tmp 34))])
  .ret)
  .skip))
  (.seq (.region [od 35 (.buildSlice 576 1 (.int .i64 0) 0 []), od 36 (.move (.tmp 0)), od 37 (.move (.tmp 5)), od 38 (.slice 1 (.tmp 36) none (some (.tmp 37)) none),
 od 39 (.append 640 1 15637498705947 (.tmp 35) (.tmp 38)), od 6 (.ren 113 (.tmp 39))])
  (.seq (.drawn [od 40 (.move (.tmp 6)), od 41 (.move (.tmp 1)), op 42 (.buildSlice 688 1 (.int .i64 0) 1 [(0, (.tmp 41))]) [1], op 43 (.append 113 1 15637498705947 (.tmp 40) (.tmp 42)) [0, 2],
 od 44 (.move (.tmp 0)), od 45 (.move (.tmp 5)), op 46 (.slice 1 (.tmp 44) (some (.tmp 45)) none none) [4, 5], op 47 (.append 768 1 15637498705947 (.tmp 43) (.tmp 46)) [3, 6, 3],
 op 4 (.move (.tmp 47)) ([7, 7] ++ rg 8)])
  .ret))))))
def f162 : AFunc := ⟨2, 48, [], [.tmp 4], f162_b⟩

/-! 163: hachure/hachureref07.AtTraces -/
abbrev f163_l0 : ACode :=
  (.seq (.seq (.region [od 26 (.move (.tmp 7)), od 27 (.move (.tmp 0)), od 28 (.move (.tmp 6)), od 29 (.indexAddr 4 (.tmp 27) (.tmp 28)),
 od 30 (.fieldAddr 1 (.tmp 29)), od 31 (.load false 1 (.tmp 30)), od 32 (.len (.tmp 31)), od 33 (.bin .lss (.tmp 26) (.tmp 32))])
  (.cond (.tmp 33)
  .skip
  (.exit 2)))
  (.seq (.block 3 (.seq (.region [od 36 (.move (.tmp 0)), od 37 (.move (.tmp 6)), od 38 (.indexAddr 4 (.tmp 36) (.tmp 37)), od 39 (.fieldAddr 1 (.tmp 38)),
 od 40 (.load false 1 (.tmp 39)), od 41 (.move (.tmp 7)), od 42 (.indexAddr 3 (.tmp 40) (.tmp 41)), od 43 (.load true 3 (.tmp 42)),
 od 44 (.call 720 false (fc 198) [(.tmp 43)]), od 45 (.un .not (.tmp 44))])
  (.cond (.tmp 45)
  (.seq (.region [od 4 (.move (ic 0)), od 5 (.move (.const (.bool false)))])
  .ret)
  .skip)))
  (.region [od 34 (.move (.tmp 7)), od 35 (.bin .add (.tmp 34) (ic 1)), od 7 (.move (.tmp 35))])))
abbrev f163_l1 : ACode :=
  (.seq (.seq (.region [od 20 (.move (.tmp 6)), od 21 (.move (.tmp 0)), od 22 (.len (.tmp 21)), od 23 (.bin .lss (.tmp 20) (.tmp 22))])
  (.cond (.tmp 23)
  .skip
  (.exit 0)))
  (.seq (.block 1 (.seq (.region [od 7 (.move (ic 0))])
  (.block 2 (.loop f163_l0))))
  (.region [od 24 (.move (.tmp 6)), od 25 (.bin .add (.tmp 24) (ic 1)), od 6 (.move (.tmp 25))])))
abbrev f163_l2 : ACode :=
  (.seq (.seq (.region [od 52 (.move (.tmp 11)), od 53 (.bin .add (.tmp 52) (ic 1)), od 54 (.move (.tmp 0)), od 55 (.move (.tmp 10)),
 od 56 (.indexAddr 4 (.tmp 54) (.tmp 55)), od 57 (.fieldAddr 1 (.tmp 56)), od 58 (.load false 1 (.tmp 57)), od 59 (.len (.tmp 58)),
 od 60 (.bin .lss (.tmp 53) (.tmp 59))])
  (.cond (.tmp 60)
  .skip
  (.exit 6)))
  (.seq (.block 7 (.seq (.region [od 63 (.move (.tmp 0)), od 64 (.move (.tmp 10)), od 65 (.indexAddr 4 (.tmp 63) (.tmp 64)), od 66 (.fieldAddr 1 (.tmp 65)),
 od 67 (.load false 1 (.tmp 66)), od 68 (.move (.tmp 11)), od 69 (.indexAddr 3 (.tmp 67) (.tmp 68)), od 70 (.load true 3 (.tmp 69)),
 od 12 (.new 208 3 (.const (.agg [.int .i64 0, .int .i64 0, .int .i64 0]))), ow (.store true 3 (.tmp 12) (.tmp 70))])
  (.seq (.region [od 71 (.move (.tmp 0)), od 72 (.move (.tmp 10)), od 73 (.indexAddr 4 (.tmp 71) (.tmp 72)), od 74 (.fieldAddr 1 (.tmp 73)),
 od 75 (.load false 1 (.tmp 74)), od 76 (.move (.tmp 11)), od 77 (.bin .add (.tmp 76) (ic 1)), od 78 (.indexAddr 3 (.tmp 75) (.tmp 77)),
 od 79 (.load true 3 (.tmp 78)), od 13 (.new 224 3 (.const (.agg [.int .i64 0, .int .i64 0, .int .i64 0]))), ow (.store true 3 (.tmp 13) (.tmp 79))])
  (.seq (.seq (.region [od 80 (.load true 3 (.tmp 12)), od 81 (.load true 3 (.tmp 13)), od 82 (.load true 2 (.tmp 3)), od 83 (.call 1344 false (fc 200) [(.tmp 80), (.tmp 81), (.tmp 82)])])
  (.cond (.tmp 83)
  (.seq (.region [od 4 (.move (ic 0)), od 5 (.move (.const (.bool false)))])
  .ret)
  .skip))
  (.seq (.region [od 84 (.load true 3 (.tmp 12)), od 85 (.load true 3 (.tmp 13)), od 86 (.load true 2 (.tmp 3)), od 87 (.call 1408 false (fc 201) [(.tmp 84), (.tmp 85), (.tmp 86)]),
 od 14 (.move (.tmp 87))])
  (.seq (.drawn [od 88 (.load true 3 (.tmp 12)), od 89 (.load true 3 (.tmp 13)), od 90 (.move (.tmp 0)), od 91 (.move (.tmp 10)),
 op 92 (.indexAddr 4 (.tmp 90) (.tmp 91)) [2, 3], op 93 (.fieldAddr 3 (.tmp 92)) [4], op 94 (.load false 1 (.tmp 93)) [5], op 95 (.build [.int .i64 0, .int .i64 0, .int .i64 0, .int .i64 0, .int .i64 0, .int .i64 0, .int .i64 0] [(0, 3, (.tmp 88)), (3, 3, (.tmp 89)), (6, 1, (.tmp 94))]) [0, 1, 6],
 od 15 (.new 256 7 (.const (.agg [.int .i64 0, .int .i64 0, .int .i64 0, .int .i64 0, .int .i64 0, .int .i64 0, .int .i64 0]))), ⟨none, .store true 7 (.tmp 15) (.tmp 95), none, ([8, 7] ++ rg 9)⟩])
  (.seq (.seq (.region [od 96 (.move (.tmp 14)), od 97 (.bin .lss (.tmp 96) (ic 0))])
  (.cond (.tmp 97)
  (.drawn [od 98 (.load true 3 (.tmp 13)), od 99 (.load true 3 (.tmp 12)), od 100 (.move (.tmp 0)), od 101 (.move (.tmp 10)),
 op 102 (.indexAddr 4 (.tmp 100) (.tmp 101)) [2, 3], op 103 (.fieldAddr 2 (.tmp 102)) [4], op 104 (.load false 1 (.tmp 103)) [5], op 105 (.build [.int .i64 0, .int .i64 0, .int .i64 0, .int .i64 0, .int .i64 0, .int .i64 0, .int .i64 0] [(0, 3, (.tmp 98)), (3, 3, (.tmp 99)), (6, 1, (.tmp 104))]) [0, 1, 6],
 ⟨none, .store true 7 (.tmp 15) (.tmp 105), none, ([7] ++ rg 8)⟩])
  .skip))
  (.seq (.region [od 106 (.move (.tmp 14)), od 107 (.bin .neq (.tmp 106) (ic 0)), od 108 (.move (.tmp 107)), ⟨some 109, .move (.tmp 8), some (108, true), []⟩,
 ⟨some 110, .un .not (.tmp 109), some (108, true), []⟩, ⟨some 111, .move (.tmp 110), some (108, true), []⟩, ⟨some 112, .load true 7 (.tmp 9), some (111, false), []⟩, ⟨some 113, .load true 7 (.tmp 15), some (111, false), []⟩,
 ⟨some 114, .call 1840 false (fc 202) [(.tmp 112), (.tmp 113)], some (111, false), []⟩, ⟨some 115, .pick (.tmp 111) (.const (.bool true)) (.tmp 114), some (108, true), []⟩, od 116 (.pick (.tmp 108) (.tmp 115) (.const (.bool false)))])
  (.cond (.tmp 116)
  (.seq (.region [od 8 (.move (.const (.bool true)))])
  (.region [od 117 (.load true 7 (.tmp 15)), ow (.store true 7 (.tmp 9) (.tmp 117))]))
  .skip)))))))))
  (.region [od 61 (.move (.tmp 11)), od 62 (.bin .add (.tmp 61) (ic 1)), od 11 (.move (.tmp 62))])))
abbrev f163_l3 : ACode :=
  (.seq (.seq (.region [od 46 (.move (.tmp 10)), od 47 (.move (.tmp 0)), od 48 (.len (.tmp 47)), od 49 (.bin .lss (.tmp 46) (.tmp 48))])
  (.cond (.tmp 49)
  .skip
  (.exit 4)))
  (.seq (.block 5 (.seq (.region [od 11 (.move (ic 0))])
  (.block 6 (.loop f163_l2))))
  (.region [od 50 (.move (.tmp 10)), od 51 (.bin .add (.tmp 50) (ic 1)), od 10 (.move (.tmp 51))])))
def f163_b : ACode :=
  (.seq (.region [od 3 (.new 64 2 (.tmp 1)), od 4 (.move (ic 0)), od 5 (.move (.const (.bool false)))])
  (.seq (.seq (.region [od 16 (.load true 2 (.tmp 3)), od 17 (.call 288 false (fc 199) [(.tmp 16)]), od 18 (.call 304 false (fc 198) [(.tmp 17)]), od 19 (.un .not (.tmp 18))])
  (.cond (.tmp 19)
  (.seq (.region [od 4 (.move (ic 0)), od 5 (.move (.const (.bool false)))])
  .ret)
  .skip))
  (.seq (.seq (.region [od 6 (.move (ic 0))])
  (.block 0 (.loop f163_l1)))
  (.seq (.region [od 8 (.move (.const (.bool false)))])
  (.seq (.region [od 9 (.new 160 7 (.const (.agg [.int .i64 0, .int .i64 0, .int .i64 0, .int .i64 0, .int .i64 0, .int .i64 0, .int .i64 0])))])
  (.seq (.seq (.region [od 10 (.move (ic 0))])
  (.block 4 (.loop f163_l3)))
  (.seq (.region [od 118 (.fieldAddr 6 (.tmp 9)), od 119 (.load false 1 (.tmp 118)), od 4 (.move (.tmp 119)), od 5 (.move (.const (.bool true)))])
  .ret)))))))
def f163 : AFunc := ⟨2, 120, [], [.tmp 4, .tmp 5], f163_b⟩

/-! 164: hachure/hachureref07.Traces -/
abbrev f164_l0 : ACode :=
  (.seq (.seq (.region [od 29 (.move (.tmp 6)), od 30 (.move (.tmp 0)), od 31 (.move (.tmp 4)), od 32 (.indexAddr 4 (.tmp 30) (.tmp 31)),
 od 33 (.fieldAddr 1 (.tmp 32)), od 34 (.load false 1 (.tmp 33)), od 35 (.len (.tmp 34)), od 36 (.bin .lss (.tmp 29) (.tmp 35))])
  (.cond (.tmp 36)
  .skip
  (.exit 2)))
  (.seq (.block 3 (.drawn [od 39 (.fieldAddr 1 (.tmp 5)), op 40 (.load false 1 (.tmp 39)) [0], od 41 (.move (.tmp 0)), od 42 (.move (.tmp 4)),
 op 43 (.indexAddr 4 (.tmp 41) (.tmp 42)) [2, 3], op 44 (.fieldAddr 1 (.tmp 43)) [4], op 45 (.load false 1 (.tmp 44)) [5], od 46 (.move (.tmp 6)),
 op 47 (.indexAddr 2 (.tmp 45) (.tmp 46)) [6, 7], op 48 (.load true 2 (.tmp 47)) [8], op 49 (.call 800 false (fc 199) [(.tmp 48)]) [9], op 50 (.buildSlice 816 3 (.agg [.int .i64 0, .int .i64 0, .int .i64 0]) 1 [(0, (.tmp 49))]) [10],
 op 51 (.append 99 3 5629499534013 (.tmp 40) (.tmp 50)) [1, 11, 10], op 52 (.fieldAddr 1 (.tmp 5)) (rg 13), ⟨none, .store false 1 (.tmp 52) (.tmp 51), none, ([13, 12, 12] ++ rg 13)⟩]))
  (.region [od 37 (.move (.tmp 6)), od 38 (.bin .add (.tmp 37) (ic 1)), od 6 (.move (.tmp 38))])))
abbrev f164_l1 : ACode :=
  (.seq (.seq (.region [od 7 (.move (.tmp 4)), od 8 (.move (.tmp 0)), od 9 (.len (.tmp 8)), od 10 (.bin .lss (.tmp 7) (.tmp 9))])
  (.cond (.tmp 10)
  .skip
  (.exit 0)))
  (.seq (.block 1 (.seq (.drawn [od 13 (.move (.tmp 0)), od 14 (.move (.tmp 4)), op 15 (.indexAddr 4 (.tmp 13) (.tmp 14)) [0, 1], op 16 (.fieldAddr 0 (.tmp 15)) [2],
 op 17 (.load false 1 (.tmp 16)) [3], od 18 (.move (.tmp 0)), od 19 (.move (.tmp 4)), op 20 (.indexAddr 4 (.tmp 18) (.tmp 19)) [5, 6],
 op 21 (.fieldAddr 2 (.tmp 20)) [7], op 22 (.load false 1 (.tmp 21)) [8], od 23 (.move (.tmp 0)), od 24 (.move (.tmp 4)),
 op 25 (.indexAddr 4 (.tmp 23) (.tmp 24)) [10, 11], op 26 (.fieldAddr 3 (.tmp 25)) [12], op 27 (.load false 1 (.tmp 26)) [13], op 28 (.build [.int .i64 0, .nils, .int .i64 0, .int .i64 0] [(0, 1, (.tmp 17)), (2, 1, (.tmp 22)), (3, 1, (.tmp 27))]) [4, 9, 14],
 od 5 (.new 96 4 (.const (.agg [.int .i64 0, .nils, .int .i64 0, .int .i64 0]))), ⟨none, .store true 4 (.tmp 5) (.tmp 28), none, ([16, 15] ++ rg 17)⟩])
  (.seq (.seq (.region [od 6 (.move (ic 0))])
  (.block 2 (.loop f164_l0)))
  (.region [od 53 (.move (.tmp 3)), od 54 (.load true 4 (.tmp 5)), od 55 (.buildSlice 896 4 (.agg [.int .i64 0, .nils, .int .i64 0, .int .i64 0]) 1 [(0, (.tmp 54))]), od 56 (.append 65 4 2872193639704 (.tmp 53) (.tmp 55)),
 od 3 (.ren 65 (.tmp 56))]))))
  (.region [od 11 (.move (.tmp 4)), od 12 (.bin .add (.tmp 11) (ic 1)), od 4 (.move (.tmp 12))])))
def f164_b : ACode :=
  (.seq (.region [od 2 (.emptyBuf 49 4)])
  (.seq (.region [od 3 (.emptyBuf 65 4)])
  (.seq (.seq (.region [od 4 (.move (ic 0))])
  (.block 0 (.loop f164_l1)))
  (.seq (.region [od 57 (.move (.tmp 3)), od 2 (.move (.tmp 57))])
  .ret))))
def f164 : AFunc := ⟨1, 58, [], [.tmp 2], f164_b⟩

/-! 165: hachure/hachureref05.Same -/
abbrev f165_l0 : ACode :=
  (.seq (.seq (.region [od 11 (.move (.tmp 5)), od 12 (.move (.tmp 0)), od 13 (.len (.tmp 12)), od 14 (.bin .lss (.tmp 11) (.tmp 13))])
  (.cond (.tmp 14)
  .skip
  (.exit 0)))
  (.seq (.block 1 (.seq (.drawn [od 17 (.move (.tmp 0)), od 18 (.move (.tmp 5)), op 19 (.indexAddr 2 (.tmp 17) (.tmp 18)) [0, 1], op 20 (.load true 2 (.tmp 19)) [2],
 od 21 (.move (.tmp 1)), od 22 (.move (.tmp 5)), op 23 (.indexAddr 2 (.tmp 21) (.tmp 22)) [4, 5], op 24 (.load true 2 (.tmp 23)) [6],
 op 25 (.eqA true [1, 1] (.tmp 20) (.tmp 24)) [3, 7]])
  (.cond (.tmp 25)
  (.seq (.region [od 4 (.move (.const (.bool false)))])
  .ret)
  .skip)))
  (.region [od 15 (.move (.tmp 5)), od 16 (.bin .add (.tmp 15) (ic 1)), od 5 (.move (.tmp 16))])))
def f165_b : ACode :=
  (.seq (.region [od 4 (.move (.const (.bool false)))])
  (.seq (.seq (.region [od 6 (.move (.tmp 0)), od 7 (.len (.tmp 6)), od 8 (.move (.tmp 1)), od 9 (.len (.tmp 8)),
 od 10 (.bin .neq (.tmp 7) (.tmp 9))])
  (.cond (.tmp 10)
  (.seq (.region [od 4 (.move (.const (.bool false)))])
  .ret)
  .skip))
  (.seq (.seq (.region [od 5 (.move (ic 0))])
  (.block 0 (.loop f165_l0)))
  (.seq (.region [od 4 (.move (.const (.bool true)))])
  .ret))))
def f165 : AFunc := ⟨2, 26, [], [.tmp 4], f165_b⟩

/-! 166: hachure/hachureref04.Dot -/
def f166_b : ACode :=
  (.seq (.region [od 2 (.new 48 2 (.tmp 0)), od 3 (.new 64 2 (.tmp 1)), od 4 (.move (ic 0))])
  (.seq (.region [od 5 (.fieldAddr 0 (.tmp 2)), od 6 (.load false 1 (.tmp 5)), od 7 (.fieldAddr 0 (.tmp 3)), od 8 (.load false 1 (.tmp 7)),
 od 9 (.bin .mul (.tmp 6) (.tmp 8)), od 10 (.fieldAddr 1 (.tmp 2)), od 11 (.load false 1 (.tmp 10)), od 12 (.fieldAddr 1 (.tmp 3)),
 od 13 (.load false 1 (.tmp 12)), od 14 (.bin .mul (.tmp 11) (.tmp 13)), od 15 (.bin .add (.tmp 9) (.tmp 14)), od 4 (.move (.tmp 15))])
  .ret))
def f166 : AFunc := ⟨2, 16, [], [.tmp 4], f166_b⟩

/-! 42: slices.insertionSortCmpFunc[hachure/api.Event] -/
abbrev f42_l0 : ACode :=
  (.seq (.seq (.drawn [od 18 (.move (.tmp 9)), od 19 (.move (.tmp 1)), op 20 (.bin .gtr (.tmp 18) (.tmp 19)) [0, 1], op 21 (.move (.tmp 20)) [2],
 ⟨some 22, .move (.tmp 3), some (21, true), [3]⟩, ⟨some 23, .move (.tmp 0), some (21, true), [3]⟩, ⟨some 24, .move (.tmp 9), some (21, true), [3]⟩, ⟨some 25, .indexAddr 5 (.tmp 23) (.tmp 24), some (21, true), [5, 6, 3]⟩,
 ⟨some 26, .load true 5 (.tmp 25), some (21, true), [7, 3]⟩, ⟨some 27, .move (.tmp 0), some (21, true), [3]⟩, ⟨some 28, .move (.tmp 9), some (21, true), [3]⟩, ⟨some 29, .bin .sub (.tmp 28) (ic 1), some (21, true), [10, 3]⟩,
 ⟨some 30, .indexAddr 5 (.tmp 27) (.tmp 29), some (21, true), [9, 11, 3]⟩, ⟨some 31, .load true 5 (.tmp 30), some (21, true), [12, 3]⟩, ⟨some 32, .call 528 false (.tmp 22) [(.tmp 26), (.tmp 31)], some (21, true), [4, 8, 13, 3, 3]⟩, ⟨some 33, .bin .lss (.tmp 32) (ic 0), some (21, true), [14, 3]⟩,
 op 34 (.pick (.tmp 21) (.tmp 33) (.const (.bool false))) [3, 15]])
  (.cond (.tmp 34)
  .skip
  (.exit 2)))
  (.seq (.block 3 (.drawn [od 37 (.move (.tmp 0)), od 38 (.move (.tmp 9)), od 39 (.move (.tmp 0)), od 40 (.move (.tmp 9)),
 op 41 (.bin .sub (.tmp 40) (ic 1)) [3], od 42 (.move (.tmp 0)), od 43 (.move (.tmp 9)), op 44 (.bin .sub (.tmp 43) (ic 1)) [6],
 op 45 (.indexAddr 5 (.tmp 42) (.tmp 44)) [5, 7], op 46 (.load true 5 (.tmp 45)) [8], od 47 (.move (.tmp 0)), od 48 (.move (.tmp 9)),
 op 49 (.indexAddr 5 (.tmp 47) (.tmp 48)) [10, 11], op 50 (.load true 5 (.tmp 49)) [12], op 51 (.indexAddr 5 (.tmp 37) (.tmp 38)) [0, 1, 0, 1, 5, 6, 7, 8, 9, 13], ⟨none, .store true 5 (.tmp 51) (.tmp 46), none, [14, 9, 0, 1, 5, 6, 7, 8, 9, 13]⟩,
 op 52 (.indexAddr 5 (.tmp 39) (.tmp 41)) ([2, 4] ++ rg 16), ⟨none, .store true 5 (.tmp 52) (.tmp 50), none, ([16, 13, 15] ++ rg 16)⟩]))
  (.region [od 35 (.move (.tmp 9)), od 36 (.bin .sub (.tmp 35) (ic 1)), od 9 (.move (.tmp 36))])))
abbrev f42_l1 : ACode :=
  (.seq (.seq (.region [od 12 (.move (.tmp 8)), od 13 (.move (.tmp 2)), od 14 (.bin .lss (.tmp 12) (.tmp 13))])
  (.cond (.tmp 14)
  .skip
  (.exit 0)))
  (.seq (.block 1 (.seq (.region [od 17 (.move (.tmp 8)), od 9 (.move (.tmp 17))])
  (.block 2 (.loop f42_l0))))
  (.region [od 15 (.move (.tmp 8)), od 16 (.bin .add (.tmp 15) (ic 1)), od 8 (.move (.tmp 16))])))
def f42_b : ACode :=
  (.seq (.region [od 10 (.move (.tmp 1)), od 11 (.bin .add (.tmp 10) (ic 1)), od 8 (.move (.tmp 11))])
  (.block 0 (.loop f42_l1)))
def f42 : AFunc := ⟨4, 53, [some 5, none, none, none], [], f42_b⟩

/-! 43: slices.heapSortCmpFunc[hachure/api.Event] -/
abbrev f43_l0 : ACode :=
  (.seq (.seq (.region [od 20 (.move (.tmp 11)), od 21 (.bin .geq (.tmp 20) (ic 0))])
  (.cond (.tmp 21)
  .skip
  (.exit 0)))
  (.seq (.block 1 (.region [od 24 (.move (.tmp 0)), od 25 (.move (.tmp 11)), od 26 (.move (.tmp 10)), od 27 (.move (.tmp 8)),
 od 28 (.move (.tmp 3)), od 29 (.call 480 false (fc 53) [(.tmp 24), (.tmp 25), (.tmp 26), (.tmp 27), (.tmp 28)])]))
  (.region [od 22 (.move (.tmp 11)), od 23 (.bin .sub (.tmp 22) (ic 1)), od 11 (.move (.tmp 23))])))
abbrev f43_l1 : ACode :=
  (.seq (.seq (.region [od 32 (.move (.tmp 12)), od 33 (.bin .geq (.tmp 32) (ic 0))])
  (.cond (.tmp 33)
  .skip
  (.exit 2)))
  (.seq (.block 3 (.seq (.drawn [od 36 (.move (.tmp 0)), od 37 (.move (.tmp 8)), od 38 (.move (.tmp 0)), od 39 (.move (.tmp 8)),
 od 40 (.move (.tmp 12)), op 41 (.bin .add (.tmp 39) (.tmp 40)) [3, 4], od 42 (.move (.tmp 0)), od 43 (.move (.tmp 8)),
 od 44 (.move (.tmp 12)), op 45 (.bin .add (.tmp 43) (.tmp 44)) [7, 8], op 46 (.indexAddr 5 (.tmp 42) (.tmp 45)) [6, 9], op 47 (.load true 5 (.tmp 46)) [10],
 od 48 (.move (.tmp 0)), od 49 (.move (.tmp 8)), op 50 (.indexAddr 5 (.tmp 48) (.tmp 49)) [12, 13], op 51 (.load true 5 (.tmp 50)) [14],
 op 52 (.indexAddr 5 (.tmp 36) (.tmp 37)) [0, 1, 0, 1, 6, 7, 8, 9, 10, 11, 15], ⟨none, .store true 5 (.tmp 52) (.tmp 47), none, [16, 11, 0, 1, 6, 7, 8, 9, 10, 11, 15]⟩, op 53 (.indexAddr 5 (.tmp 38) (.tmp 41)) ([2, 5] ++ rg 18), ⟨none, .store true 5 (.tmp 53) (.tmp 51), none, ([18, 15, 17] ++ rg 18)⟩])
  (.region [od 54 (.move (.tmp 0)), od 55 (.move (.tmp 9)), od 56 (.move (.tmp 12)), od 57 (.move (.tmp 8)),
 od 58 (.move (.tmp 3)), od 59 (.call 960 false (fc 53) [(.tmp 54), (.tmp 55), (.tmp 56), (.tmp 57), (.tmp 58)])])))
  (.region [od 34 (.move (.tmp 12)), od 35 (.bin .sub (.tmp 34) (ic 1)), od 12 (.move (.tmp 35))])))
def f43_b : ACode :=
  (.seq (.region [od 13 (.move (.tmp 1)), od 8 (.move (.tmp 13))])
  (.seq (.region [od 9 (.move (ic 0))])
  (.seq (.region [od 14 (.move (.tmp 2)), od 15 (.move (.tmp 1)), od 16 (.bin .sub (.tmp 14) (.tmp 15)), od 10 (.move (.tmp 16))])
  (.seq (.seq (.region [od 17 (.move (.tmp 10)), od 18 (.bin .sub (.tmp 17) (ic 1)), od 19 (.bin .quo (.tmp 18) (ic 2)), od 11 (.move (.tmp 19))])
  (.block 0 (.loop f43_l0)))
  (.seq (.region [od 30 (.move (.tmp 10)), od 31 (.bin .sub (.tmp 30) (ic 1)), od 12 (.move (.tmp 31))])
  (.block 2 (.loop f43_l1)))))))
def f43 : AFunc := ⟨4, 60, [some 5, none, none, none], [], f43_b⟩

/-! 44: slices.breakPatternsCmpFunc[hachure/api.Event] -/
abbrev f44_l0 : ACode :=
  (.seq (.seq (.region [od 28 (.move (.tmp 11)), od 29 (.move (.tmp 1)), od 30 (.move (.tmp 8)), od 31 (.bin .quo (.tmp 30) (ic 4)),
 od 32 (.bin .mul (.tmp 31) (ic 2)), od 33 (.bin .add (.tmp 29) (.tmp 32)), od 34 (.bin .add (.tmp 33) (ic 1)), od 35 (.bin .leq (.tmp 28) (.tmp 34))])
  (.cond (.tmp 35)
  .skip
  (.exit 0)))
  (.seq (.block 1 (.seq (.region [od 38 (.call 624 false (fc 55) [(.tmp 9)]), od 39 (.move (.tmp 10)), od 40 (.bin .sub (.tmp 39) (.const (.int .u64 1))), od 41 (.bin .and (.tmp 38) (.tmp 40)),
 od 42 (.convInt .i64 (.tmp 41)), od 12 (.move (.tmp 42))])
  (.seq (.seq (.region [od 43 (.move (.tmp 12)), od 44 (.move (.tmp 8)), od 45 (.bin .geq (.tmp 43) (.tmp 44))])
  (.cond (.tmp 45)
  (.region [od 46 (.move (.tmp 12)), od 47 (.move (.tmp 8)), od 48 (.bin .sub (.tmp 46) (.tmp 47)), od 12 (.move (.tmp 48))])
  .skip))
  (.drawn [od 49 (.move (.tmp 0)), od 50 (.move (.tmp 11)), od 51 (.move (.tmp 0)), od 52 (.move (.tmp 1)),
 od 53 (.move (.tmp 12)), op 54 (.bin .add (.tmp 52) (.tmp 53)) [3, 4], od 55 (.move (.tmp 0)), od 56 (.move (.tmp 1)),
 od 57 (.move (.tmp 12)), op 58 (.bin .add (.tmp 56) (.tmp 57)) [7, 8], op 59 (.indexAddr 5 (.tmp 55) (.tmp 58)) [6, 9], op 60 (.load true 5 (.tmp 59)) [10],
 od 61 (.move (.tmp 0)), od 62 (.move (.tmp 11)), op 63 (.indexAddr 5 (.tmp 61) (.tmp 62)) [12, 13], op 64 (.load true 5 (.tmp 63)) [14],
 op 65 (.indexAddr 5 (.tmp 49) (.tmp 50)) [0, 1, 0, 1, 6, 7, 8, 9, 10, 11, 15], ⟨none, .store true 5 (.tmp 65) (.tmp 60), none, [16, 11, 0, 1, 6, 7, 8, 9, 10, 11, 15]⟩, op 66 (.indexAddr 5 (.tmp 51) (.tmp 54)) ([2, 5] ++ rg 18), ⟨none, .store true 5 (.tmp 66) (.tmp 64), none, ([18, 15, 17] ++ rg 18)⟩]))))
  (.region [od 36 (.move (.tmp 11)), od 37 (.bin .add (.tmp 36) (ic 1)), od 11 (.move (.tmp 37))])))
def f44_b : ACode :=
  (.seq (.region [od 13 (.move (.tmp 2)), od 14 (.move (.tmp 1)), od 15 (.bin .sub (.tmp 13) (.tmp 14)), od 8 (.move (.tmp 15))])
  (.seq (.region [od 16 (.move (.tmp 8)), od 17 (.bin .geq (.tmp 16) (ic 8))])
  (.cond (.tmp 17)
  (.seq (.region [od 18 (.move (.tmp 8)), od 19 (.convInt .u64 (.tmp 18)), od 9 (.new 160 1 (.const (.int .u64 0))), ow (.store false 1 (.tmp 9) (.tmp 19))])
  (.seq (.region [od 20 (.move (.tmp 8)), od 21 (.call 352 false (fc 54) [(.tmp 20)]), od 10 (.move (.tmp 21))])
  (.seq (.region [od 22 (.move (.tmp 1)), od 23 (.move (.tmp 8)), od 24 (.bin .quo (.tmp 23) (ic 4)), od 25 (.bin .mul (.tmp 24) (ic 2)),
 od 26 (.bin .add (.tmp 22) (.tmp 25)), od 27 (.bin .sub (.tmp 26) (ic 1)), od 11 (.move (.tmp 27))])
  (.block 0 (.loop f44_l0)))))
  .skip)))
def f44 : AFunc := ⟨4, 67, [some 5, none, none, none], [], f44_b⟩

/-! 45: slices.choosePivotCmpFunc[hachure/api.Event] -/
def f45_b : ACode :=
  (.seq (.region [od 8 (.move (ic 0)), od 9 (.move (ic 0))])
  (.seq (.region [od 15 (.move (.tmp 2)), od 16 (.move (.tmp 1)), od 17 (.bin .sub (.tmp 15) (.tmp 16)), od 10 (.move (.tmp 17))])
  (.seq (.region [od 11 (.new 192 1 (ic 0))])
  (.seq (.region [od 18 (.move (.tmp 1)), od 19 (.move (.tmp 10)), od 20 (.bin .quo (.tmp 19) (ic 4)), od 21 (.bin .mul (.tmp 20) (ic 1)),
 od 22 (.bin .add (.tmp 18) (.tmp 21)), od 12 (.move (.tmp 22))])
  (.seq (.region [od 23 (.move (.tmp 1)), od 24 (.move (.tmp 10)), od 25 (.bin .quo (.tmp 24) (ic 4)), od 26 (.bin .mul (.tmp 25) (ic 2)),
 od 27 (.bin .add (.tmp 23) (.tmp 26)), od 13 (.move (.tmp 27))])
  (.seq (.region [od 28 (.move (.tmp 1)), od 29 (.move (.tmp 10)), od 30 (.bin .quo (.tmp 29) (ic 4)), od 31 (.bin .mul (.tmp 30) (ic 3)),
 od 32 (.bin .add (.tmp 28) (.tmp 31)), od 14 (.move (.tmp 32))])
  (.seq (.seq (.region [od 33 (.move (.tmp 10)), od 34 (.bin .geq (.tmp 33) (ic 8))])
  (.cond (.tmp 34)
  (.seq (.seq (.region [od 35 (.move (.tmp 10)), od 36 (.bin .geq (.tmp 35) (ic 50))])
  (.cond (.tmp 36)
  (.seq (.region [od 37 (.move (.tmp 0)), od 38 (.move (.tmp 12)), od 39 (.move (.tmp 3)), od 40 (.call 656 false (fc 56) [(.tmp 37), (.tmp 38), (.tmp 11), (.tmp 39)]),
 od 12 (.move (.tmp 40))])
  (.seq (.region [od 41 (.move (.tmp 0)), od 42 (.move (.tmp 13)), od 43 (.move (.tmp 3)), od 44 (.call 720 false (fc 56) [(.tmp 41), (.tmp 42), (.tmp 11), (.tmp 43)]),
 od 13 (.move (.tmp 44))])
  (.region [od 45 (.move (.tmp 0)), od 46 (.move (.tmp 14)), od 47 (.move (.tmp 3)), od 48 (.call 784 false (fc 56) [(.tmp 45), (.tmp 46), (.tmp 11), (.tmp 47)]),
 od 14 (.move (.tmp 48))])))
  .skip))
  (.region [od 49 (.move (.tmp 0)), od 50 (.move (.tmp 12)), od 51 (.move (.tmp 13)), od 52 (.move (.tmp 14)),
 od 53 (.move (.tmp 3)), od 54 (.call 880 false (fc 57) [(.tmp 49), (.tmp 50), (.tmp 51), (.tmp 52), (.tmp 11), (.tmp 53)]), od 13 (.move (.tmp 54))]))
  .skip))
  (.seq (.region [od 55 (.load false 1 (.tmp 11))])
  (.block 0 (.seq (.region [od 58 (.bin .eql (.tmp 55) (ic 0)), od 57 (.move (.tmp 58))])
  (.cond (.tmp 57)
  (.seq (.region [od 59 (.move (.tmp 13)), od 8 (.move (.tmp 59)), od 9 (.move (ic 1))])
  .ret)
  (.seq (.region [od 61 (.bin .eql (.tmp 55) (ic 12)), od 60 (.move (.tmp 61))])
  (.cond (.tmp 60)
  (.seq (.region [od 62 (.move (.tmp 13)), od 8 (.move (.tmp 62)), od 9 (.move (ic 2))])
  .ret)
  (.seq (.region [od 56 (.move (.tmp 13)), od 8 (.move (.tmp 56)), od 9 (.move (ic 0))])
  .ret))))))))))))))
def f45 : AFunc := ⟨4, 63, [], [.tmp 8, .tmp 9], f45_b⟩

/-! 46: slices.reverseRangeCmpFunc[hachure/api.Event] -/
abbrev f46_l0 : ACode :=
  (.seq (.seq (.region [od 13 (.move (.tmp 8)), od 14 (.move (.tmp 9)), od 15 (.bin .lss (.tmp 13) (.tmp 14))])
  (.cond (.tmp 15)
  .skip
  (.exit 0)))
  (.block 1 (.seq (.drawn [od 16 (.move (.tmp 0)), od 17 (.move (.tmp 8)), od 18 (.move (.tmp 0)), od 19 (.move (.tmp 9)),
 od 20 (.move (.tmp 0)), od 21 (.move (.tmp 9)), op 22 (.indexAddr 5 (.tmp 20) (.tmp 21)) [4, 5], op 23 (.load true 5 (.tmp 22)) [6],
 od 24 (.move (.tmp 0)), od 25 (.move (.tmp 8)), op 26 (.indexAddr 5 (.tmp 24) (.tmp 25)) [8, 9], op 27 (.load true 5 (.tmp 26)) [10],
 op 28 (.indexAddr 5 (.tmp 16) (.tmp 17)) [0, 1, 0, 1, 4, 5, 6, 7, 11], ⟨none, .store true 5 (.tmp 28) (.tmp 23), none, [12, 7, 0, 1, 4, 5, 6, 7, 11]⟩, op 29 (.indexAddr 5 (.tmp 18) (.tmp 19)) ([2, 3] ++ rg 14), ⟨none, .store true 5 (.tmp 29) (.tmp 27), none, ([14, 11, 13] ++ rg 14)⟩])
  (.seq (.region [od 30 (.move (.tmp 8)), od 31 (.bin .add (.tmp 30) (ic 1)), od 8 (.move (.tmp 31))])
  (.region [od 32 (.move (.tmp 9)), od 33 (.bin .sub (.tmp 32) (ic 1)), od 9 (.move (.tmp 33))])))))
def f46_b : ACode :=
  (.seq (.region [od 10 (.move (.tmp 1)), od 8 (.move (.tmp 10))])
  (.seq (.region [od 11 (.move (.tmp 2)), od 12 (.bin .sub (.tmp 11) (ic 1)), od 9 (.move (.tmp 12))])
  (.block 0 (.loop f46_l0))))
def f46 : AFunc := ⟨4, 34, [some 5, none, none, none], [], f46_b⟩

/-! 47: slices.partialInsertionSortCmpFunc[hachure/api.Event] -/
abbrev f47_l0 : ACode :=
  (.seq (.seq (.drawn [od 19 (.move (.tmp 9)), od 20 (.move (.tmp 2)), op 21 (.bin .lss (.tmp 19) (.tmp 20)) [0, 1], op 22 (.move (.tmp 21)) [2],
 ⟨some 23, .move (.tmp 3), some (22, true), [3]⟩, ⟨some 24, .move (.tmp 0), some (22, true), [3]⟩, ⟨some 25, .move (.tmp 9), some (22, true), [3]⟩, ⟨some 26, .indexAddr 5 (.tmp 24) (.tmp 25), some (22, true), [5, 6, 3]⟩,
 ⟨some 27, .load true 5 (.tmp 26), some (22, true), [7, 3]⟩, ⟨some 28, .move (.tmp 0), some (22, true), [3]⟩, ⟨some 29, .move (.tmp 9), some (22, true), [3]⟩, ⟨some 30, .bin .sub (.tmp 29) (ic 1), some (22, true), [10, 3]⟩,
 ⟨some 31, .indexAddr 5 (.tmp 28) (.tmp 30), some (22, true), [9, 11, 3]⟩, ⟨some 32, .load true 5 (.tmp 31), some (22, true), [12, 3]⟩, ⟨some 33, .call 544 false (.tmp 23) [(.tmp 27), (.tmp 32)], some (22, true), [4, 8, 13, 3, 3]⟩, ⟨some 34, .bin .lss (.tmp 33) (ic 0), some (22, true), [14, 3]⟩,
 ⟨some 35, .un .not (.tmp 34), some (22, true), [15, 3]⟩, op 36 (.pick (.tmp 22) (.tmp 35) (.const (.bool false))) [3, 16]])
  (.cond (.tmp 36)
  .skip
  (.exit 2)))
  (.block 3 (.region [od 37 (.move (.tmp 9)), od 38 (.bin .add (.tmp 37) (ic 1)), od 9 (.move (.tmp 38))])))
abbrev f47_l1 : ACode :=
  (.seq (.seq (.region [od 68 (.move (.tmp 11)), od 69 (.bin .geq (.tmp 68) (ic 1))])
  (.cond (.tmp 69)
  .skip
  (.exit 4)))
  (.seq (.block 5 (.seq (.seq (.drawn [od 72 (.move (.tmp 3)), od 73 (.move (.tmp 0)), od 74 (.move (.tmp 11)), op 75 (.indexAddr 5 (.tmp 73) (.tmp 74)) [1, 2],
 op 76 (.load true 5 (.tmp 75)) [3], od 77 (.move (.tmp 0)), od 78 (.move (.tmp 11)), op 79 (.bin .sub (.tmp 78) (ic 1)) [6],
 op 80 (.indexAddr 5 (.tmp 77) (.tmp 79)) [5, 7], op 81 (.load true 5 (.tmp 80)) [8], op 82 (.call 1328 false (.tmp 72) [(.tmp 76), (.tmp 81)]) [0, 4, 9], op 83 (.bin .lss (.tmp 82) (ic 0)) [10],
 op 84 (.un .not (.tmp 83)) [11]])
  (.cond (.tmp 84)
  (.exit 4)
  .skip))
  (.drawn [od 85 (.move (.tmp 0)), od 86 (.move (.tmp 11)), od 87 (.move (.tmp 0)), od 88 (.move (.tmp 11)),
 op 89 (.bin .sub (.tmp 88) (ic 1)) [3], od 90 (.move (.tmp 0)), od 91 (.move (.tmp 11)), op 92 (.bin .sub (.tmp 91) (ic 1)) [6],
 op 93 (.indexAddr 5 (.tmp 90) (.tmp 92)) [5, 7], op 94 (.load true 5 (.tmp 93)) [8], od 95 (.move (.tmp 0)), od 96 (.move (.tmp 11)),
 op 97 (.indexAddr 5 (.tmp 95) (.tmp 96)) [10, 11], op 98 (.load true 5 (.tmp 97)) [12], op 99 (.indexAddr 5 (.tmp 85) (.tmp 86)) [0, 1, 0, 1, 5, 6, 7, 8, 9, 13], ⟨none, .store true 5 (.tmp 99) (.tmp 94), none, [14, 9, 0, 1, 5, 6, 7, 8, 9, 13]⟩,
 op 100 (.indexAddr 5 (.tmp 87) (.tmp 89)) ([2, 4] ++ rg 16), ⟨none, .store true 5 (.tmp 100) (.tmp 98), none, ([16, 13, 15] ++ rg 16)⟩])))
  (.region [od 70 (.move (.tmp 11)), od 71 (.bin .sub (.tmp 70) (ic 1)), od 11 (.move (.tmp 71))])))
abbrev f47_l2 : ACode :=
  (.seq (.seq (.region [od 107 (.move (.tmp 12)), od 108 (.move (.tmp 2)), od 109 (.bin .lss (.tmp 107) (.tmp 108))])
  (.cond (.tmp 109)
  .skip
  (.exit 6)))
  (.seq (.block 7 (.seq (.seq (.drawn [od 112 (.move (.tmp 3)), od 113 (.move (.tmp 0)), od 114 (.move (.tmp 12)), op 115 (.indexAddr 5 (.tmp 113) (.tmp 114)) [1, 2],
 op 116 (.load true 5 (.tmp 115)) [3], od 117 (.move (.tmp 0)), od 118 (.move (.tmp 12)), op 119 (.bin .sub (.tmp 118) (ic 1)) [6],
 op 120 (.indexAddr 5 (.tmp 117) (.tmp 119)) [5, 7], op 121 (.load true 5 (.tmp 120)) [8], op 122 (.call 1968 false (.tmp 112) [(.tmp 116), (.tmp 121)]) [0, 4, 9], op 123 (.bin .lss (.tmp 122) (ic 0)) [10],
 op 124 (.un .not (.tmp 123)) [11]])
  (.cond (.tmp 124)
  (.exit 6)
  .skip))
  (.drawn [od 125 (.move (.tmp 0)), od 126 (.move (.tmp 12)), od 127 (.move (.tmp 0)), od 128 (.move (.tmp 12)),
 op 129 (.bin .sub (.tmp 128) (ic 1)) [3], od 130 (.move (.tmp 0)), od 131 (.move (.tmp 12)), op 132 (.bin .sub (.tmp 131) (ic 1)) [6],
 op 133 (.indexAddr 5 (.tmp 130) (.tmp 132)) [5, 7], op 134 (.load true 5 (.tmp 133)) [8], od 135 (.move (.tmp 0)), od 136 (.move (.tmp 12)),
 op 137 (.indexAddr 5 (.tmp 135) (.tmp 136)) [10, 11], op 138 (.load true 5 (.tmp 137)) [12], op 139 (.indexAddr 5 (.tmp 125) (.tmp 126)) [0, 1, 0, 1, 5, 6, 7, 8, 9, 13], ⟨none, .store true 5 (.tmp 139) (.tmp 134), none, [14, 9, 0, 1, 5, 6, 7, 8, 9, 13]⟩,
 op 140 (.indexAddr 5 (.tmp 127) (.tmp 129)) ([2, 4] ++ rg 16), ⟨none, .store true 5 (.tmp 140) (.tmp 138), none, ([16, 13, 15] ++ rg 16)⟩])))
  (.region [od 110 (.move (.tmp 12)), od 111 (.bin .add (.tmp 110) (ic 1)), od 12 (.move (.tmp 111))])))
abbrev f47_l3 : ACode :=
  (.seq (.seq (.region [od 15 (.move (.tmp 10)), od 16 (.bin .lss (.tmp 15) (ic 5))])
  (.cond (.tmp 16)
  .skip
  (.exit 0)))
  (.seq (.block 1 (.seq (.block 2 (.loop f47_l0))
  (.seq (.seq (.region [od 39 (.move (.tmp 9)), od 40 (.move (.tmp 2)), od 41 (.bin .eql (.tmp 39) (.tmp 40))])
  (.cond (.tmp 41)
  (.seq (.region [od 8 (.move (.const (.bool true)))])
  .ret)
  .skip))
  (.seq (.seq (.region [od 42 (.move (.tmp 2)), od 43 (.move (.tmp 1)), od 44 (.bin .sub (.tmp 42) (.tmp 43)), od 45 (.bin .lss (.tmp 44) (ic 50))])
  (.cond (.tmp 45)
  (.seq (.region [od 8 (.move (.const (.bool false)))])
  .ret)
  .skip))
  (.seq (.drawn [od 46 (.move (.tmp 0)), od 47 (.move (.tmp 9)), od 48 (.move (.tmp 0)), od 49 (.move (.tmp 9)),
 op 50 (.bin .sub (.tmp 49) (ic 1)) [3], od 51 (.move (.tmp 0)), od 52 (.move (.tmp 9)), op 53 (.bin .sub (.tmp 52) (ic 1)) [6],
 op 54 (.indexAddr 5 (.tmp 51) (.tmp 53)) [5, 7], op 55 (.load true 5 (.tmp 54)) [8], od 56 (.move (.tmp 0)), od 57 (.move (.tmp 9)),
 op 58 (.indexAddr 5 (.tmp 56) (.tmp 57)) [10, 11], op 59 (.load true 5 (.tmp 58)) [12], op 60 (.indexAddr 5 (.tmp 46) (.tmp 47)) [0, 1, 0, 1, 5, 6, 7, 8, 9, 13], ⟨none, .store true 5 (.tmp 60) (.tmp 55), none, [14, 9, 0, 1, 5, 6, 7, 8, 9, 13]⟩,
 op 61 (.indexAddr 5 (.tmp 48) (.tmp 50)) ([2, 4] ++ rg 16), ⟨none, .store true 5 (.tmp 61) (.tmp 59), none, ([16, 13, 15] ++ rg 16)⟩])
  (.seq (.seq (.region [od 62 (.move (.tmp 9)), od 63 (.move (.tmp 1)), od 64 (.bin .sub (.tmp 62) (.tmp 63)), od 65 (.bin .geq (.tmp 64) (ic 2))])
  (.cond (.tmp 65)
  (.seq (.region [od 66 (.move (.tmp 9)), od 67 (.bin .sub (.tmp 66) (ic 1)), od 11 (.move (.tmp 67))])
  (.block 4 (.loop f47_l1)))
  .skip))
  (.seq (.region [od 101 (.move (.tmp 2)), od 102 (.move (.tmp 9)), od 103 (.bin .sub (.tmp 101) (.tmp 102)), od 104 (.bin .geq (.tmp 103) (ic 2))])
  (.cond (.tmp 104)
  (.seq (.region [od 105 (.move (.tmp 9)), od 106 (.bin .add (.tmp 105) (ic 1)), od 12 (.move (.tmp 106))])
  (.block 6 (.loop f47_l2)))
  .skip))))))))
  (.region [od 17 (.move (.tmp 10)), od 18 (.bin .add (.tmp 17) (ic 1)), od 10 (.move (.tmp 18))])))
def f47_b : ACode :=
  (.seq (.region [od 8 (.move (.const (.bool false)))])
  (.seq (.region [od 13 (.move (.tmp 1)), od 14 (.bin .add (.tmp 13) (ic 1)), od 9 (.move (.tmp 14))])
  (.seq (.seq (.region [od 10 (.move (ic 0))])
  (.block 0 (.loop f47_l3)))
  (.seq (.region [od 8 (.move (.const (.bool false)))])
  .ret))))
def f47 : AFunc := ⟨4, 141, [some 5, none, none, none], [.tmp 8], f47_b⟩

/-! 48: slices.partitionEqualCmpFunc[hachure/api.Event] -/
abbrev f48_l0 : ACode :=
  (.seq (.seq (.drawn [od 31 (.move (.tmp 11)), od 32 (.move (.tmp 12)), op 33 (.bin .leq (.tmp 31) (.tmp 32)) [0, 1], op 34 (.move (.tmp 33)) [2],
 ⟨some 35, .move (.tmp 4), some (34, true), [3]⟩, ⟨some 36, .move (.tmp 0), some (34, true), [3]⟩, ⟨some 37, .move (.tmp 1), some (34, true), [3]⟩, ⟨some 38, .indexAddr 5 (.tmp 36) (.tmp 37), some (34, true), [5, 6, 3]⟩,
 ⟨some 39, .load true 5 (.tmp 38), some (34, true), [7, 3]⟩, ⟨some 40, .move (.tmp 0), some (34, true), [3]⟩, ⟨some 41, .move (.tmp 11), some (34, true), [3]⟩, ⟨some 42, .indexAddr 5 (.tmp 40) (.tmp 41), some (34, true), [9, 10, 3]⟩,
 ⟨some 43, .load true 5 (.tmp 42), some (34, true), [11, 3]⟩, ⟨some 44, .call 720 false (.tmp 35) [(.tmp 39), (.tmp 43)], some (34, true), [4, 8, 12, 3, 3]⟩, ⟨some 45, .bin .lss (.tmp 44) (ic 0), some (34, true), [13, 3]⟩, ⟨some 46, .un .not (.tmp 45), some (34, true), [14, 3]⟩,
 op 47 (.pick (.tmp 34) (.tmp 46) (.const (.bool false))) [3, 15]])
  (.cond (.tmp 47)
  .skip
  (.exit 2)))
  (.block 3 (.region [od 48 (.move (.tmp 11)), od 49 (.bin .add (.tmp 48) (ic 1)), od 11 (.move (.tmp 49))])))
abbrev f48_l1 : ACode :=
  (.seq (.seq (.drawn [od 50 (.move (.tmp 11)), od 51 (.move (.tmp 12)), op 52 (.bin .leq (.tmp 50) (.tmp 51)) [0, 1], op 53 (.move (.tmp 52)) [2],
 ⟨some 54, .move (.tmp 4), some (53, true), [3]⟩, ⟨some 55, .move (.tmp 0), some (53, true), [3]⟩, ⟨some 56, .move (.tmp 1), some (53, true), [3]⟩, ⟨some 57, .indexAddr 5 (.tmp 55) (.tmp 56), some (53, true), [5, 6, 3]⟩,
 ⟨some 58, .load true 5 (.tmp 57), some (53, true), [7, 3]⟩, ⟨some 59, .move (.tmp 0), some (53, true), [3]⟩, ⟨some 60, .move (.tmp 12), some (53, true), [3]⟩, ⟨some 61, .indexAddr 5 (.tmp 59) (.tmp 60), some (53, true), [9, 10, 3]⟩,
 ⟨some 62, .load true 5 (.tmp 61), some (53, true), [11, 3]⟩, ⟨some 63, .call 1024 false (.tmp 54) [(.tmp 58), (.tmp 62)], some (53, true), [4, 8, 12, 3, 3]⟩, ⟨some 64, .bin .lss (.tmp 63) (ic 0), some (53, true), [13, 3]⟩, op 65 (.pick (.tmp 53) (.tmp 64) (.const (.bool false))) [3, 14]])
  (.cond (.tmp 65)
  .skip
  (.exit 4)))
  (.block 5 (.region [od 66 (.move (.tmp 12)), od 67 (.bin .sub (.tmp 66) (ic 1)), od 12 (.move (.tmp 67))])))
abbrev f48_l2 : ACode :=
  (.block 1 (.seq (.block 2 (.loop f48_l0))
  (.seq (.block 4 (.loop f48_l1))
  (.seq (.seq (.region [od 68 (.move (.tmp 11)), od 69 (.move (.tmp 12)), od 70 (.bin .gtr (.tmp 68) (.tmp 69))])
  (.cond (.tmp 70)
  (.exit 0)
  .skip))
  (.seq (.drawn [od 71 (.move (.tmp 0)), od 72 (.move (.tmp 11)), od 73 (.move (.tmp 0)), od 74 (.move (.tmp 12)),
 od 75 (.move (.tmp 0)), od 76 (.move (.tmp 12)), op 77 (.indexAddr 5 (.tmp 75) (.tmp 76)) [4, 5], op 78 (.load true 5 (.tmp 77)) [6],
 od 79 (.move (.tmp 0)), od 80 (.move (.tmp 11)), op 81 (.indexAddr 5 (.tmp 79) (.tmp 80)) [8, 9], op 82 (.load true 5 (.tmp 81)) [10],
 op 83 (.indexAddr 5 (.tmp 71) (.tmp 72)) [0, 1, 0, 1, 4, 5, 6, 7, 11], ⟨none, .store true 5 (.tmp 83) (.tmp 78), none, [12, 7, 0, 1, 4, 5, 6, 7, 11]⟩, op 84 (.indexAddr 5 (.tmp 73) (.tmp 74)) ([2, 3] ++ rg 14), ⟨none, .store true 5 (.tmp 84) (.tmp 82), none, ([14, 11, 13] ++ rg 14)⟩])
  (.seq (.region [od 85 (.move (.tmp 11)), od 86 (.bin .add (.tmp 85) (ic 1)), od 11 (.move (.tmp 86))])
  (.region [od 87 (.move (.tmp 12)), od 88 (.bin .sub (.tmp 87) (ic 1)), od 12 (.move (.tmp 88))])))))))
def f48_b : ACode :=
  (.seq (.region [od 10 (.move (ic 0))])
  (.seq (.drawn [od 13 (.move (.tmp 0)), od 14 (.move (.tmp 1)), od 15 (.move (.tmp 0)), od 16 (.move (.tmp 3)),
 od 17 (.move (.tmp 0)), od 18 (.move (.tmp 3)), op 19 (.indexAddr 5 (.tmp 17) (.tmp 18)) [4, 5], op 20 (.load true 5 (.tmp 19)) [6],
 od 21 (.move (.tmp 0)), od 22 (.move (.tmp 1)), op 23 (.indexAddr 5 (.tmp 21) (.tmp 22)) [8, 9], op 24 (.load true 5 (.tmp 23)) [10],
 op 25 (.indexAddr 5 (.tmp 13) (.tmp 14)) [0, 1, 0, 1, 4, 5, 6, 7, 11], ⟨none, .store true 5 (.tmp 25) (.tmp 20), none, [12, 7, 0, 1, 4, 5, 6, 7, 11]⟩, op 26 (.indexAddr 5 (.tmp 15) (.tmp 16)) ([2, 3] ++ rg 14), ⟨none, .store true 5 (.tmp 26) (.tmp 24), none, ([14, 11, 13] ++ rg 14)⟩])
  (.seq (.region [od 27 (.move (.tmp 1)), od 28 (.bin .add (.tmp 27) (ic 1)), od 29 (.move (.tmp 2)), od 30 (.bin .sub (.tmp 29) (ic 1)),
 od 11 (.move (.tmp 28)), od 12 (.move (.tmp 30))])
  (.seq (.block 0 (.loop f48_l2))
  (.seq (.region [od 89 (.move (.tmp 11)), od 10 (.move (.tmp 89))])
  .ret)))))
def f48 : AFunc := ⟨5, 90, [some 5, none, none, none, none], [.tmp 10], f48_b⟩

/-! 49: slices.partitionCmpFunc[hachure/api.Event] -/
abbrev f49_l0 : ACode :=
  (.seq (.seq (.drawn [od 32 (.move (.tmp 12)), od 33 (.move (.tmp 13)), op 34 (.bin .leq (.tmp 32) (.tmp 33)) [0, 1], op 35 (.move (.tmp 34)) [2],
 ⟨some 36, .move (.tmp 4), some (35, true), [3]⟩, ⟨some 37, .move (.tmp 0), some (35, true), [3]⟩, ⟨some 38, .move (.tmp 12), some (35, true), [3]⟩, ⟨some 39, .indexAddr 5 (.tmp 37) (.tmp 38), some (35, true), [5, 6, 3]⟩,
 ⟨some 40, .load true 5 (.tmp 39), some (35, true), [7, 3]⟩, ⟨some 41, .move (.tmp 0), some (35, true), [3]⟩, ⟨some 42, .move (.tmp 1), some (35, true), [3]⟩, ⟨some 43, .indexAddr 5 (.tmp 41) (.tmp 42), some (35, true), [9, 10, 3]⟩,
 ⟨some 44, .load true 5 (.tmp 43), some (35, true), [11, 3]⟩, ⟨some 45, .call 736 false (.tmp 36) [(.tmp 40), (.tmp 44)], some (35, true), [4, 8, 12, 3, 3]⟩, ⟨some 46, .bin .lss (.tmp 45) (ic 0), some (35, true), [13, 3]⟩, op 47 (.pick (.tmp 35) (.tmp 46) (.const (.bool false))) [3, 14]])
  (.cond (.tmp 47)
  .skip
  (.exit 0)))
  (.block 1 (.region [od 48 (.move (.tmp 12)), od 49 (.bin .add (.tmp 48) (ic 1)), od 12 (.move (.tmp 49))])))
abbrev f49_l1 : ACode :=
  (.seq (.seq (.drawn [od 50 (.move (.tmp 12)), od 51 (.move (.tmp 13)), op 52 (.bin .leq (.tmp 50) (.tmp 51)) [0, 1], op 53 (.move (.tmp 52)) [2],
 ⟨some 54, .move (.tmp 4), some (53, true), [3]⟩, ⟨some 55, .move (.tmp 0), some (53, true), [3]⟩, ⟨some 56, .move (.tmp 13), some (53, true), [3]⟩, ⟨some 57, .indexAddr 5 (.tmp 55) (.tmp 56), some (53, true), [5, 6, 3]⟩,
 ⟨some 58, .load true 5 (.tmp 57), some (53, true), [7, 3]⟩, ⟨some 59, .move (.tmp 0), some (53, true), [3]⟩, ⟨some 60, .move (.tmp 1), some (53, true), [3]⟩, ⟨some 61, .indexAddr 5 (.tmp 59) (.tmp 60), some (53, true), [9, 10, 3]⟩,
 ⟨some 62, .load true 5 (.tmp 61), some (53, true), [11, 3]⟩, ⟨some 63, .call 1024 false (.tmp 54) [(.tmp 58), (.tmp 62)], some (53, true), [4, 8, 12, 3, 3]⟩, ⟨some 64, .bin .lss (.tmp 63) (ic 0), some (53, true), [13, 3]⟩, ⟨some 65, .un .not (.tmp 64), some (53, true), [14, 3]⟩,
 op 66 (.pick (.tmp 53) (.tmp 65) (.const (.bool false))) [3, 15]])
  (.cond (.tmp 66)
  .skip
  (.exit 2)))
  (.block 3 (.region [od 67 (.move (.tmp 13)), od 68 (.bin .sub (.tmp 67) (ic 1)), od 13 (.move (.tmp 68))])))
abbrev f49_l2 : ACode :=
  (.seq (.seq (.drawn [od 105 (.move (.tmp 12)), od 106 (.move (.tmp 13)), op 107 (.bin .leq (.tmp 105) (.tmp 106)) [0, 1], op 108 (.move (.tmp 107)) [2],
 ⟨some 109, .move (.tmp 4), some (108, true), [3]⟩, ⟨some 110, .move (.tmp 0), some (108, true), [3]⟩, ⟨some 111, .move (.tmp 12), some (108, true), [3]⟩, ⟨some 112, .indexAddr 5 (.tmp 110) (.tmp 111), some (108, true), [5, 6, 3]⟩,
 ⟨some 113, .load true 5 (.tmp 112), some (108, true), [7, 3]⟩, ⟨some 114, .move (.tmp 0), some (108, true), [3]⟩, ⟨some 115, .move (.tmp 1), some (108, true), [3]⟩, ⟨some 116, .indexAddr 5 (.tmp 114) (.tmp 115), some (108, true), [9, 10, 3]⟩,
 ⟨some 117, .load true 5 (.tmp 116), some (108, true), [11, 3]⟩, ⟨some 118, .call 1904 false (.tmp 109) [(.tmp 113), (.tmp 117)], some (108, true), [4, 8, 12, 3, 3]⟩, ⟨some 119, .bin .lss (.tmp 118) (ic 0), some (108, true), [13, 3]⟩, op 120 (.pick (.tmp 108) (.tmp 119) (.const (.bool false))) [3, 14]])
  (.cond (.tmp 120)
  .skip
  (.exit 6)))
  (.block 7 (.region [od 121 (.move (.tmp 12)), od 122 (.bin .add (.tmp 121) (ic 1)), od 12 (.move (.tmp 122))])))
abbrev f49_l3 : ACode :=
  (.seq (.seq (.drawn [od 123 (.move (.tmp 12)), od 124 (.move (.tmp 13)), op 125 (.bin .leq (.tmp 123) (.tmp 124)) [0, 1], op 126 (.move (.tmp 125)) [2],
 ⟨some 127, .move (.tmp 4), some (126, true), [3]⟩, ⟨some 128, .move (.tmp 0), some (126, true), [3]⟩, ⟨some 129, .move (.tmp 13), some (126, true), [3]⟩, ⟨some 130, .indexAddr 5 (.tmp 128) (.tmp 129), some (126, true), [5, 6, 3]⟩,
 ⟨some 131, .load true 5 (.tmp 130), some (126, true), [7, 3]⟩, ⟨some 132, .move (.tmp 0), some (126, true), [3]⟩, ⟨some 133, .move (.tmp 1), some (126, true), [3]⟩, ⟨some 134, .indexAddr 5 (.tmp 132) (.tmp 133), some (126, true), [9, 10, 3]⟩,
 ⟨some 135, .load true 5 (.tmp 134), some (126, true), [11, 3]⟩, ⟨some 136, .call 2192 false (.tmp 127) [(.tmp 131), (.tmp 135)], some (126, true), [4, 8, 12, 3, 3]⟩, ⟨some 137, .bin .lss (.tmp 136) (ic 0), some (126, true), [13, 3]⟩, ⟨some 138, .un .not (.tmp 137), some (126, true), [14, 3]⟩,
 op 139 (.pick (.tmp 126) (.tmp 138) (.const (.bool false))) [3, 15]])
  (.cond (.tmp 139)
  .skip
  (.exit 8)))
  (.block 9 (.region [od 140 (.move (.tmp 13)), od 141 (.bin .sub (.tmp 140) (ic 1)), od 13 (.move (.tmp 141))])))
abbrev f49_l4 : ACode :=
  (.block 5 (.seq (.block 6 (.loop f49_l2))
  (.seq (.block 8 (.loop f49_l3))
  (.seq (.seq (.region [od 142 (.move (.tmp 12)), od 143 (.move (.tmp 13)), od 144 (.bin .gtr (.tmp 142) (.tmp 143))])
  (.cond (.tmp 144)
  (.exit 4)
  .skip))
  (.seq (.drawn [od 145 (.move (.tmp 0)), od 146 (.move (.tmp 12)), od 147 (.move (.tmp 0)), od 148 (.move (.tmp 13)),
 od 149 (.move (.tmp 0)), od 150 (.move (.tmp 13)), op 151 (.indexAddr 5 (.tmp 149) (.tmp 150)) [4, 5], op 152 (.load true 5 (.tmp 151)) [6],
 od 153 (.move (.tmp 0)), od 154 (.move (.tmp 12)), op 155 (.indexAddr 5 (.tmp 153) (.tmp 154)) [8, 9], op 156 (.load true 5 (.tmp 155)) [10],
 op 157 (.indexAddr 5 (.tmp 145) (.tmp 146)) [0, 1, 0, 1, 4, 5, 6, 7, 11], ⟨none, .store true 5 (.tmp 157) (.tmp 152), none, [12, 7, 0, 1, 4, 5, 6, 7, 11]⟩, op 158 (.indexAddr 5 (.tmp 147) (.tmp 148)) ([2, 3] ++ rg 14), ⟨none, .store true 5 (.tmp 158) (.tmp 156), none, ([14, 11, 13] ++ rg 14)⟩])
  (.seq (.region [od 159 (.move (.tmp 12)), od 160 (.bin .add (.tmp 159) (ic 1)), od 12 (.move (.tmp 160))])
  (.region [od 161 (.move (.tmp 13)), od 162 (.bin .sub (.tmp 161) (ic 1)), od 13 (.move (.tmp 162))])))))))
def f49_b : ACode :=
  (.seq (.region [od 10 (.move (ic 0)), od 11 (.move (.const (.bool false)))])
  (.seq (.drawn [od 14 (.move (.tmp 0)), od 15 (.move (.tmp 1)), od 16 (.move (.tmp 0)), od 17 (.move (.tmp 3)),
 od 18 (.move (.tmp 0)), od 19 (.move (.tmp 3)), op 20 (.indexAddr 5 (.tmp 18) (.tmp 19)) [4, 5], op 21 (.load true 5 (.tmp 20)) [6],
 od 22 (.move (.tmp 0)), od 23 (.move (.tmp 1)), op 24 (.indexAddr 5 (.tmp 22) (.tmp 23)) [8, 9], op 25 (.load true 5 (.tmp 24)) [10],
 op 26 (.indexAddr 5 (.tmp 14) (.tmp 15)) [0, 1, 0, 1, 4, 5, 6, 7, 11], ⟨none, .store true 5 (.tmp 26) (.tmp 21), none, [12, 7, 0, 1, 4, 5, 6, 7, 11]⟩, op 27 (.indexAddr 5 (.tmp 16) (.tmp 17)) ([2, 3] ++ rg 14), ⟨none, .store true 5 (.tmp 27) (.tmp 25), none, ([14, 11, 13] ++ rg 14)⟩])
  (.seq (.region [od 28 (.move (.tmp 1)), od 29 (.bin .add (.tmp 28) (ic 1)), od 30 (.move (.tmp 2)), od 31 (.bin .sub (.tmp 30) (ic 1)),
 od 12 (.move (.tmp 29)), od 13 (.move (.tmp 31))])
  (.seq (.block 0 (.loop f49_l0))
  (.seq (.block 2 (.loop f49_l1))
  (.seq (.seq (.region [od 69 (.move (.tmp 12)), od 70 (.move (.tmp 13)), od 71 (.bin .gtr (.tmp 69) (.tmp 70))])
  (.cond (.tmp 71)
  (.seq (.drawn [od 72 (.move (.tmp 0)), od 73 (.move (.tmp 13)), od 74 (.move (.tmp 0)), od 75 (.move (.tmp 1)),
 od 76 (.move (.tmp 0)), od 77 (.move (.tmp 1)), op 78 (.indexAddr 5 (.tmp 76) (.tmp 77)) [4, 5], op 79 (.load true 5 (.tmp 78)) [6],
 od 80 (.move (.tmp 0)), od 81 (.move (.tmp 13)), op 82 (.indexAddr 5 (.tmp 80) (.tmp 81)) [8, 9], op 83 (.load true 5 (.tmp 82)) [10],
 op 84 (.indexAddr 5 (.tmp 72) (.tmp 73)) [0, 1, 0, 1, 4, 5, 6, 7, 11], ⟨none, .store true 5 (.tmp 84) (.tmp 79), none, [12, 7, 0, 1, 4, 5, 6, 7, 11]⟩, op 85 (.indexAddr 5 (.tmp 74) (.tmp 75)) ([2, 3] ++ rg 14), ⟨none, .store true 5 (.tmp 85) (.tmp 83), none, ([14, 11, 13] ++ rg 14)⟩])
  (.seq (.region [od 86 (.move (.tmp 13)), od 10 (.move (.tmp 86)), od 11 (.move (.const (.bool true)))])
  .ret))
  .skip))
  (.seq (.drawn [od 87 (.move (.tmp 0)), od 88 (.move (.tmp 12)), od 89 (.move (.tmp 0)), od 90 (.move (.tmp 13)),
 od 91 (.move (.tmp 0)), od 92 (.move (.tmp 13)), op 93 (.indexAddr 5 (.tmp 91) (.tmp 92)) [4, 5], op 94 (.load true 5 (.tmp 93)) [6],
 od 95 (.move (.tmp 0)), od 96 (.move (.tmp 12)), op 97 (.indexAddr 5 (.tmp 95) (.tmp 96)) [8, 9], op 98 (.load true 5 (.tmp 97)) [10],
 op 99 (.indexAddr 5 (.tmp 87) (.tmp 88)) [0, 1, 0, 1, 4, 5, 6, 7, 11], ⟨none, .store true 5 (.tmp 99) (.tmp 94), none, [12, 7, 0, 1, 4, 5, 6, 7, 11]⟩, op 100 (.indexAddr 5 (.tmp 89) (.tmp 90)) ([2, 3] ++ rg 14), ⟨none, .store true 5 (.tmp 100) (.tmp 98), none, ([14, 11, 13] ++ rg 14)⟩])
  (.seq (.region [od 101 (.move (.tmp 12)), od 102 (.bin .add (.tmp 101) (ic 1)), od 12 (.move (.tmp 102))])
  (.seq (.region [od 103 (.move (.tmp 13)), od 104 (.bin .sub (.tmp 103) (ic 1)), od 13 (.move (.tmp 104))])
  (.seq (.block 4 (.loop f49_l4))
  (.seq (.drawn [od 163 (.move (.tmp 0)), od 164 (.move (.tmp 13)), od 165 (.move (.tmp 0)), od 166 (.move (.tmp 1)),
 od 167 (.move (.tmp 0)), od 168 (.move (.tmp 1)), op 169 (.indexAddr 5 (.tmp 167) (.tmp 168)) [4, 5], op 170 (.load true 5 (.tmp 169)) [6],
 od 171 (.move (.tmp 0)), od 172 (.move (.tmp 13)), op 173 (.indexAddr 5 (.tmp 171) (.tmp 172)) [8, 9], op 174 (.load true 5 (.tmp 173)) [10],
 op 175 (.indexAddr 5 (.tmp 163) (.tmp 164)) [0, 1, 0, 1, 4, 5, 6, 7, 11], ⟨none, .store true 5 (.tmp 175) (.tmp 170), none, [12, 7, 0, 1, 4, 5, 6, 7, 11]⟩, op 176 (.indexAddr 5 (.tmp 165) (.tmp 166)) ([2, 3] ++ rg 14), ⟨none, .store true 5 (.tmp 176) (.tmp 174), none, ([14, 11, 13] ++ rg 14)⟩])
  (.seq (.region [od 177 (.move (.tmp 13)), od 10 (.move (.tmp 177)), od 11 (.move (.const (.bool false)))])
  .ret))))))))))))
def f49 : AFunc := ⟨5, 178, [some 5, none, none, none, none], [.tmp 10, .tmp 11], f49_b⟩

/-! 50: math/bits.Len32 -/
def f50_b : ACode :=
  (.seq (.region [od 2 (.move (ic 0))])
  (.seq (.seq (.region [od 3 (.move (.tmp 0)), od 4 (.bin .geq (.tmp 3) (.const (.int .u32 65536)))])
  (.cond (.tmp 4)
  (.seq (.region [od 5 (.move (.tmp 0)), od 6 (.bin .shr (.tmp 5) (.const (.int .u64 16))), od 0 (.move (.tmp 6))])
  (.region [od 2 (.move (ic 16))]))
  .skip))
  (.seq (.seq (.region [od 7 (.move (.tmp 0)), od 8 (.bin .geq (.tmp 7) (.const (.int .u32 256)))])
  (.cond (.tmp 8)
  (.seq (.region [od 9 (.move (.tmp 0)), od 10 (.bin .shr (.tmp 9) (.const (.int .u64 8))), od 0 (.move (.tmp 10))])
  (.region [od 11 (.move (.tmp 2)), od 12 (.bin .add (.tmp 11) (ic 8)), od 2 (.move (.tmp 12))]))
  .skip))
  (.seq (.region [od 13 (.move (.tmp 2)), od 14 (.move (.tmp 0)), od 15 (.convInt .u8 (.tmp 14)), od 16 (.indexStr (.const (.str [0, 1, 2, 2, 3, 3, 3, 3, 4, 4, 4, 4, 4, 4, 4, 4, 5, 5, 5, 5, 5, 5, 5, 5, 5, 5, 5, 5, 5, 5, 5, 5, 6, 6, 6, 6, 6, 6, 6, 6, 6, 6, 6, 6, 6, 6, 6, 6, 6, 6, 6, 6, 6, 6, 6, 6, 6, 6, 6, 6, 6, 6, 6, 6, 7, 7, 7, 7, 7, 7, 7, 7, 7, 7, 7, 7, 7, 7, 7, 7, 7, 7, 7, 7, 7, 7, 7, 7, 7, 7, 7, 7, 7, 7, 7, 7, 7, 7, 7, 7, 7, 7, 7, 7, 7, 7, 7, 7, 7, 7, 7, 7, 7, 7, 7, 7, 7, 7, 7, 7, 7, 7, 7, 7, 7, 7, 7, 7, 8, 8, 8, 8, 8, 8, 8, 8, 8, 8, 8, 8, 8, 8, 8, 8, 8, 8, 8, 8, 8, 8, 8, 8, 8, 8, 8, 8, 8, 8, 8, 8, 8, 8, 8, 8, 8, 8, 8, 8, 8, 8, 8, 8, 8, 8, 8, 8, 8, 8, 8, 8, 8, 8, 8, 8, 8, 8, 8, 8, 8, 8, 8, 8, 8, 8, 8, 8, 8, 8, 8, 8, 8, 8, 8, 8, 8, 8, 8, 8, 8, 8, 8, 8, 8, 8, 8, 8, 8, 8, 8, 8, 8, 8, 8, 8, 8, 8, 8, 8, 8, 8, 8, 8, 8, 8, 8, 8, 8, 8, 8, 8, 8, 8, 8, 8, 8, 8, 8, 8, 8, 8, 8, 8, 8, 8, 8, 8])) (.tmp 15)),
 od 17 (.convInt .i64 (.tmp 16)), od 18 (.bin .add (.tmp 13) (.tmp 17)), od 2 (.move (.tmp 18))])
  .ret))))
def f50 : AFunc := ⟨1, 19, [], [.tmp 2], f50_b⟩

/-! 51: math/bits.Len64 -/
def f51_b : ACode :=
  (.seq (.region [od 2 (.move (ic 0))])
  (.seq (.seq (.region [od 3 (.move (.tmp 0)), od 4 (.bin .geq (.tmp 3) (.const (.int .u64 4294967296)))])
  (.cond (.tmp 4)
  (.seq (.region [od 5 (.move (.tmp 0)), od 6 (.bin .shr (.tmp 5) (.const (.int .u64 32))), od 0 (.move (.tmp 6))])
  (.region [od 2 (.move (ic 32))]))
  .skip))
  (.seq (.seq (.region [od 7 (.move (.tmp 0)), od 8 (.bin .geq (.tmp 7) (.const (.int .u64 65536)))])
  (.cond (.tmp 8)
  (.seq (.region [od 9 (.move (.tmp 0)), od 10 (.bin .shr (.tmp 9) (.const (.int .u64 16))), od 0 (.move (.tmp 10))])
  (.region [od 11 (.move (.tmp 2)), od 12 (.bin .add (.tmp 11) (ic 16)), od 2 (.move (.tmp 12))]))
  .skip))
  (.seq (.seq (.region [od 13 (.move (.tmp 0)), od 14 (.bin .geq (.tmp 13) (.const (.int .u64 256)))])
  (.cond (.tmp 14)
  (.seq (.region [od 15 (.move (.tmp 0)), od 16 (.bin .shr (.tmp 15) (.const (.int .u64 8))), od 0 (.move (.tmp 16))])
  (.region [od 17 (.move (.tmp 2)), od 18 (.bin .add (.tmp 17) (ic 8)), od 2 (.move (.tmp 18))]))
  .skip))
  (.seq (.region [od 19 (.move (.tmp 2)), od 20 (.move (.tmp 0)), od 21 (.convInt .u8 (.tmp 20)), od 22 (.indexStr (.const (.str [0, 1, 2, 2, 3, 3, 3, 3, 4, 4, 4, 4, 4, 4, 4, 4, 5, 5, 5, 5, 5, 5, 5, 5, 5, 5, 5, 5, 5, 5, 5, 5, 6, 6, 6, 6, 6, 6, 6, 6, 6, 6, 6, 6, 6, 6, 6, 6, 6, 6, 6, 6, 6, 6, 6, 6, 6, 6, 6, 6, 6, 6, 6, 6, 7, 7, 7, 7, 7, 7, 7, 7, 7, 7, 7, 7, 7, 7, 7, 7, 7, 7, 7, 7, 7, 7, 7, 7, 7, 7, 7, 7, 7, 7, 7, 7, 7, 7, 7, 7, 7, 7, 7, 7, 7, 7, 7, 7, 7, 7, 7, 7, 7, 7, 7, 7, 7, 7, 7, 7, 7, 7, 7, 7, 7, 7, 7, 7, 8, 8, 8, 8, 8, 8, 8, 8, 8, 8, 8, 8, 8, 8, 8, 8, 8, 8, 8, 8, 8, 8, 8, 8, 8, 8, 8, 8, 8, 8, 8, 8, 8, 8, 8, 8, 8, 8, 8, 8, 8, 8, 8, 8, 8, 8, 8, 8, 8, 8, 8, 8, 8, 8, 8, 8, 8, 8, 8, 8, 8, 8, 8, 8, 8, 8, 8, 8, 8, 8, 8, 8, 8, 8, 8, 8, 8, 8, 8, 8, 8, 8, 8, 8, 8, 8, 8, 8, 8, 8, 8, 8, 8, 8, 8, 8, 8, 8, 8, 8, 8, 8, 8, 8, 8, 8, 8, 8, 8, 8, 8, 8, 8, 8, 8, 8, 8, 8, 8, 8, 8, 8, 8, 8, 8, 8, 8, 8])) (.tmp 21)),
 od 23 (.convInt .i64 (.tmp 22)), od 24 (.bin .add (.tmp 19) (.tmp 23)), od 2 (.move (.tmp 24))])
  .ret)))))
def f51 : AFunc := ⟨1, 25, [], [.tmp 2], f51_b⟩

/-! 198: hachure/hachureref07.bounded -/
def f198_b : ACode :=
  (.seq (.region [od 1 (.new 32 3 (.tmp 0)), od 2 (.move (.const (.bool false)))])
  (.seq (.region [od 3 (.fieldAddr 2 (.tmp 1)), od 4 (.load false 1 (.tmp 3)), od 5 (.bin .geq (.tmp 4) (ic 1)), od 6 (.move (.tmp 5)),
 ⟨some 7, .fieldAddr 2 (.tmp 1), some (6, true), []⟩, ⟨some 8, .load false 1 (.tmp 7), some (6, true), []⟩, ⟨some 9, .bin .leq (.tmp 8) (ic 4194304), some (6, true), []⟩, od 10 (.pick (.tmp 6) (.tmp 9) (.const (.bool false))),
 od 11 (.move (.tmp 10)), ⟨some 12, .fieldAddr 0 (.tmp 1), some (11, true), []⟩, ⟨some 13, .load false 1 (.tmp 12), some (11, true), []⟩, ⟨some 14, .bin .geq (.tmp 13) (ic (-137438953472)), some (11, true), []⟩,
 od 15 (.pick (.tmp 11) (.tmp 14) (.const (.bool false))), od 16 (.move (.tmp 15)), ⟨some 17, .fieldAddr 0 (.tmp 1), some (16, true), []⟩, ⟨some 18, .load false 1 (.tmp 17), some (16, true), []⟩,
 ⟨some 19, .bin .leq (.tmp 18) (ic 137438953472), some (16, true), []⟩, od 20 (.pick (.tmp 16) (.tmp 19) (.const (.bool false))), od 21 (.move (.tmp 20)), ⟨some 22, .fieldAddr 1 (.tmp 1), some (21, true), []⟩,
 ⟨some 23, .load false 1 (.tmp 22), some (21, true), []⟩, ⟨some 24, .bin .geq (.tmp 23) (ic (-137438953472)), some (21, true), []⟩, od 25 (.pick (.tmp 21) (.tmp 24) (.const (.bool false))), od 26 (.move (.tmp 25)),
 ⟨some 27, .fieldAddr 1 (.tmp 1), some (26, true), []⟩, ⟨some 28, .load false 1 (.tmp 27), some (26, true), []⟩, ⟨some 29, .bin .leq (.tmp 28) (ic 137438953472), some (26, true), []⟩, od 30 (.pick (.tmp 26) (.tmp 29) (.const (.bool false))),
 od 2 (.move (.tmp 30))])
  .ret))
def f198 : AFunc := ⟨1, 31, [], [.tmp 2], f198_b⟩

/-! 199: hachure/hachureref04.SpotOf -/
def f199_b : ACode :=
  (.seq (.region [od 1 (.new 32 2 (.tmp 0)), od 2 (.new 48 3 (.const (.agg [.int .i64 0, .int .i64 0, .int .i64 0])))])
  (.seq (.region [od 3 (.fieldAddr 0 (.tmp 1)), od 4 (.load false 1 (.tmp 3)), od 5 (.fieldAddr 1 (.tmp 1)), od 6 (.load false 1 (.tmp 5)),
 od 7 (.build [.int .i64 0, .int .i64 0, .int .i64 0] [(0, 1, (.tmp 4)), (1, 1, (.tmp 6)), (2, 1, (ic 1))]), ow (.store true 3 (.tmp 2) (.tmp 7))])
  .ret))
def f199 : AFunc := ⟨1, 8, [], [.cell 2 true 3], f199_b⟩

/-! 200: hachure/hachureref07.on -/
def f200_b : ACode :=
  (.seq (.region [od 3 (.new 64 3 (.tmp 0)), od 4 (.new 80 3 (.tmp 1)), od 5 (.new 96 2 (.tmp 2)), od 6 (.move (.const (.bool false)))])
  (.seq (.seq (.drawn [od 9 (.load true 3 (.tmp 3)), od 10 (.load true 3 (.tmp 4)), od 11 (.load true 2 (.tmp 5)), op 12 (.call 208 false (fc 199) [(.tmp 11)]) [2],
 op 13 (.call 224 false (fc 235) [(.tmp 9), (.tmp 10), (.tmp 12)]) [0, 1, 3, 3], op 14 (.bin .neq (.tmp 13) (ic 0)) [4]])
  (.cond (.tmp 14)
  (.seq (.region [od 6 (.move (.const (.bool false)))])
  .ret)
  .skip))
  (.seq (.region [od 15 (.fieldAddr 0 (.tmp 5)), od 16 (.load false 1 (.tmp 15)), od 17 (.fieldAddr 0 (.tmp 3)), od 18 (.load false 1 (.tmp 17)),
 od 19 (.fieldAddr 2 (.tmp 3)), od 20 (.load false 1 (.tmp 19)), od 21 (.build [.int .i64 0, .int .i64 0] [(0, 1, (.tmp 18)), (1, 1, (.tmp 20))]), od 22 (.fieldAddr 0 (.tmp 4)),
 od 23 (.load false 1 (.tmp 22)), od 24 (.fieldAddr 2 (.tmp 4)), od 25 (.load false 1 (.tmp 24)), od 26 (.build [.int .i64 0, .int .i64 0] [(0, 1, (.tmp 23)), (1, 1, (.tmp 25))]),
 od 27 (.call 448 false (fc 236) [(.tmp 16), (.tmp 21), (.tmp 26)]), od 7 (.move (.tmp 27))])
  (.seq (.region [od 28 (.fieldAddr 1 (.tmp 5)), od 29 (.load false 1 (.tmp 28)), od 30 (.fieldAddr 1 (.tmp 3)), od 31 (.load false 1 (.tmp 30)),
 od 32 (.fieldAddr 2 (.tmp 3)), od 33 (.load false 1 (.tmp 32)), od 34 (.build [.int .i64 0, .int .i64 0] [(0, 1, (.tmp 31)), (1, 1, (.tmp 33))]), od 35 (.fieldAddr 1 (.tmp 4)),
 od 36 (.load false 1 (.tmp 35)), od 37 (.fieldAddr 2 (.tmp 4)), od 38 (.load false 1 (.tmp 37)), od 39 (.build [.int .i64 0, .int .i64 0] [(0, 1, (.tmp 36)), (1, 1, (.tmp 38))]),
 od 40 (.call 656 false (fc 236) [(.tmp 29), (.tmp 34), (.tmp 39)]), od 8 (.move (.tmp 40))])
  (.seq (.region [od 41 (.move (.tmp 7)), od 42 (.bin .eql (.tmp 41) (ic 0)), od 43 (.move (.tmp 42)), ⟨some 44, .move (.tmp 8), some (43, true), []⟩,
 ⟨some 45, .bin .eql (.tmp 44) (ic 0), some (43, true), []⟩, od 46 (.pick (.tmp 43) (.tmp 45) (.const (.bool false))), od 6 (.move (.tmp 46))])
  .ret)))))
def f200 : AFunc := ⟨3, 47, [], [.tmp 6], f200_b⟩

/-! 201: hachure/hachureref06.RaySpot -/
def f201_b : ACode :=
  (.seq (.region [od 3 (.new 64 3 (.tmp 0)), od 4 (.new 80 3 (.tmp 1)), od 5 (.new 96 2 (.tmp 2)), od 6 (.move (ic 0))])
  (.seq (.seq (.region [od 10 (.fieldAddr 2 (.tmp 3)), od 11 (.load false 1 (.tmp 10)), od 12 (.bin .lss (.tmp 11) (ic 1)), od 13 (.move (.tmp 12)),
 ⟨some 14, .fieldAddr 2 (.tmp 4), some (13, false), []⟩, ⟨some 15, .load false 1 (.tmp 14), some (13, false), []⟩, ⟨some 16, .bin .lss (.tmp 15) (ic 1), some (13, false), []⟩, od 17 (.pick (.tmp 13) (.const (.bool true)) (.tmp 16))])
  (.cond (.tmp 17)
  (.seq (.region [od 6 (.move (ic 0))])
  .ret)
  .skip))
  (.seq (.region [od 18 (.load true 2 (.tmp 5)), od 19 (.call 320 false (fc 199) [(.tmp 18)]), od 7 (.new 128 3 (.const (.agg [.int .i64 0, .int .i64 0, .int .i64 0]))), ow (.store true 3 (.tmp 7) (.tmp 19))])
  (.seq (.region [od 20 (.load true 3 (.tmp 3)), od 21 (.load true 2 (.tmp 5)), od 22 (.call 368 false (fc 237) [(.tmp 20), (.tmp 21)]), od 8 (.move (.tmp 22))])
  (.seq (.region [od 23 (.load true 3 (.tmp 4)), od 24 (.load true 2 (.tmp 5)), od 25 (.call 416 false (fc 237) [(.tmp 23), (.tmp 24)]), od 9 (.move (.tmp 25))])
  (.seq (.seq (.region [od 26 (.move (.tmp 8)), od 27 (.un .not (.tmp 26)), od 28 (.move (.tmp 27)), ⟨some 29, .move (.tmp 9), some (28, true), []⟩,
 od 30 (.pick (.tmp 28) (.tmp 29) (.const (.bool false))), od 31 (.move (.tmp 30)), ⟨some 32, .load true 3 (.tmp 3), some (31, true), []⟩, ⟨some 33, .load true 3 (.tmp 4), some (31, true), []⟩,
 ⟨some 34, .load true 3 (.tmp 7), some (31, true), []⟩, ⟨some 35, .call 576 false (fc 235) [(.tmp 32), (.tmp 33), (.tmp 34)], some (31, true), []⟩, ⟨some 36, .bin .lss (.tmp 35) (ic 0), some (31, true), []⟩, od 37 (.pick (.tmp 31) (.tmp 36) (.const (.bool false)))])
  (.cond (.tmp 37)
  (.seq (.region [od 6 (.move (ic 1))])
  .ret)
  .skip))
  (.seq (.seq (.region [od 38 (.move (.tmp 8)), od 39 (.move (.tmp 38)), ⟨some 40, .move (.tmp 9), some (39, true), []⟩, ⟨some 41, .un .not (.tmp 40), some (39, true), []⟩,
 od 42 (.pick (.tmp 39) (.tmp 41) (.const (.bool false))), od 43 (.move (.tmp 42)), ⟨some 44, .load true 3 (.tmp 4), some (43, true), []⟩, ⟨some 45, .load true 3 (.tmp 3), some (43, true), []⟩,
 ⟨some 46, .load true 3 (.tmp 7), some (43, true), []⟩, ⟨some 47, .call 768 false (fc 235) [(.tmp 44), (.tmp 45), (.tmp 46)], some (43, true), []⟩, ⟨some 48, .bin .lss (.tmp 47) (ic 0), some (43, true), []⟩, od 49 (.pick (.tmp 43) (.tmp 48) (.const (.bool false)))])
  (.cond (.tmp 49)
  (.seq (.region [od 6 (.move (ic (-1)))])
  .ret)
  .skip))
  (.seq (.region [od 6 (.move (ic 0))])
  .ret))))))))
def f201 : AFunc := ⟨3, 50, [], [.tmp 6], f201_b⟩

/-! 202: hachure/hachureref07.beyond -/
def f202_b : ACode :=
  (.seq (.region [od 2 (.new 48 7 (.tmp 0)), od 3 (.new 64 7 (.tmp 1)), od 4 (.move (.const (.bool false)))])
  (.seq (.seq (.region [od 7 (.fieldAddr 0 (.tmp 3)), od 8 (.fieldAddr 1 (.tmp 7)), od 9 (.load false 1 (.tmp 8)), od 10 (.fieldAddr 0 (.tmp 3)),
 od 11 (.fieldAddr 2 (.tmp 10)), od 12 (.load false 1 (.tmp 11)), od 13 (.build [.int .i64 0, .int .i64 0] [(0, 1, (.tmp 9)), (1, 1, (.tmp 12))]), od 14 (.fieldAddr 0 (.tmp 2)),
 od 15 (.fieldAddr 1 (.tmp 14)), od 16 (.load false 1 (.tmp 15)), od 17 (.fieldAddr 0 (.tmp 2)), od 18 (.fieldAddr 2 (.tmp 17)),
 od 19 (.load false 1 (.tmp 18)), od 20 (.build [.int .i64 0, .int .i64 0] [(0, 1, (.tmp 16)), (1, 1, (.tmp 19))]), od 21 (.call 352 false (fc 238) [(.tmp 13), (.tmp 20)]), od 22 (.bin .geq (.tmp 21) (ic 0))])
  (.cond (.tmp 22)
  (.seq (.region [od 23 (.fieldAddr 0 (.tmp 2)), od 24 (.load true 3 (.tmp 23)), od 25 (.fieldAddr 3 (.tmp 2)), od 26 (.load true 3 (.tmp 25)),
 od 27 (.fieldAddr 0 (.tmp 3)), od 28 (.load true 3 (.tmp 27)), od 29 (.call 480 false (fc 235) [(.tmp 24), (.tmp 26), (.tmp 28)]), od 5 (.move (.tmp 29))])
  (.seq (.seq (.region [od 30 (.move (.tmp 5)), od 31 (.bin .eql (.tmp 30) (ic 0))])
  (.cond (.tmp 31)
  (.region [od 32 (.fieldAddr 0 (.tmp 2)), od 33 (.load true 3 (.tmp 32)), od 34 (.fieldAddr 3 (.tmp 2)), od 35 (.load true 3 (.tmp 34)),
 od 36 (.fieldAddr 3 (.tmp 3)), od 37 (.load true 3 (.tmp 36)), od 38 (.call 624 false (fc 235) [(.tmp 33), (.tmp 35), (.tmp 37)]), od 5 (.move (.tmp 38))])
  .skip))
  (.seq (.region [od 39 (.move (.tmp 5)), od 40 (.bin .lss (.tmp 39) (ic 0)), od 4 (.move (.tmp 40))])
  .ret)))
  .skip))
  (.seq (.region [od 41 (.fieldAddr 0 (.tmp 3)), od 42 (.load true 3 (.tmp 41)), od 43 (.fieldAddr 3 (.tmp 3)), od 44 (.load true 3 (.tmp 43)),
 od 45 (.fieldAddr 0 (.tmp 2)), od 46 (.load true 3 (.tmp 45)), od 47 (.call 768 false (fc 235) [(.tmp 42), (.tmp 44), (.tmp 46)]), od 6 (.move (.tmp 47))])
  (.seq (.seq (.region [od 48 (.move (.tmp 6)), od 49 (.bin .eql (.tmp 48) (ic 0))])
  (.cond (.tmp 49)
  (.region [od 50 (.fieldAddr 0 (.tmp 3)), od 51 (.load true 3 (.tmp 50)), od 52 (.fieldAddr 3 (.tmp 3)), od 53 (.load true 3 (.tmp 52)),
 od 54 (.fieldAddr 3 (.tmp 2)), od 55 (.load true 3 (.tmp 54)), od 56 (.call 912 false (fc 235) [(.tmp 51), (.tmp 53), (.tmp 55)]), od 6 (.move (.tmp 56))])
  .skip))
  (.seq (.region [od 57 (.move (.tmp 6)), od 58 (.bin .gtr (.tmp 57) (ic 0)), od 4 (.move (.tmp 58))])
  .ret)))))
def f202 : AFunc := ⟨2, 59, [], [.tmp 4], f202_b⟩

/-! 53: slices.siftDownCmpFunc[hachure/api.Event] -/
abbrev f53_l0 : ACode :=
  (.block 1 (.seq (.region [od 13 (.move (.tmp 10)), od 14 (.bin .mul (ic 2) (.tmp 13)), od 15 (.bin .add (.tmp 14) (ic 1)), od 11 (.move (.tmp 15))])
  (.seq (.seq (.region [od 16 (.move (.tmp 11)), od 17 (.move (.tmp 2)), od 18 (.bin .geq (.tmp 16) (.tmp 17))])
  (.cond (.tmp 18)
  (.exit 0)
  .skip))
  (.seq (.seq (.drawn [od 19 (.move (.tmp 11)), op 20 (.bin .add (.tmp 19) (ic 1)) [0], od 21 (.move (.tmp 2)), op 22 (.bin .lss (.tmp 20) (.tmp 21)) [1, 2],
 op 23 (.move (.tmp 22)) [3], ⟨some 24, .move (.tmp 4), some (23, true), [4]⟩, ⟨some 25, .move (.tmp 0), some (23, true), [4]⟩, ⟨some 26, .move (.tmp 3), some (23, true), [4]⟩,
 ⟨some 27, .move (.tmp 11), some (23, true), [4]⟩, ⟨some 28, .bin .add (.tmp 26) (.tmp 27), some (23, true), [7, 8, 4]⟩, ⟨some 29, .indexAddr 5 (.tmp 25) (.tmp 28), some (23, true), [6, 9, 4]⟩, ⟨some 30, .load true 5 (.tmp 29), some (23, true), [10, 4]⟩,
 ⟨some 31, .move (.tmp 0), some (23, true), [4]⟩, ⟨some 32, .move (.tmp 3), some (23, true), [4]⟩, ⟨some 33, .move (.tmp 11), some (23, true), [4]⟩, ⟨some 34, .bin .add (.tmp 32) (.tmp 33), some (23, true), [13, 14, 4]⟩,
 ⟨some 35, .bin .add (.tmp 34) (ic 1), some (23, true), [15, 4]⟩, ⟨some 36, .indexAddr 5 (.tmp 31) (.tmp 35), some (23, true), [12, 16, 4]⟩, ⟨some 37, .load true 5 (.tmp 36), some (23, true), [17, 4]⟩, ⟨some 38, .call 624 false (.tmp 24) [(.tmp 30), (.tmp 37)], some (23, true), [5, 11, 18, 4, 4]⟩,
 ⟨some 39, .bin .lss (.tmp 38) (ic 0), some (23, true), [19, 4]⟩, op 40 (.pick (.tmp 23) (.tmp 39) (.const (.bool false))) [4, 20]])
  (.cond (.tmp 40)
  (.region [od 41 (.move (.tmp 11)), od 42 (.bin .add (.tmp 41) (ic 1)), od 11 (.move (.tmp 42))])
  .skip))
  (.seq (.seq (.drawn [od 43 (.move (.tmp 4)), od 44 (.move (.tmp 0)), od 45 (.move (.tmp 3)), od 46 (.move (.tmp 10)),
 op 47 (.bin .add (.tmp 45) (.tmp 46)) [2, 3], op 48 (.indexAddr 5 (.tmp 44) (.tmp 47)) [1, 4], op 49 (.load true 5 (.tmp 48)) [5], od 50 (.move (.tmp 0)),
 od 51 (.move (.tmp 3)), od 52 (.move (.tmp 11)), op 53 (.bin .add (.tmp 51) (.tmp 52)) [8, 9], op 54 (.indexAddr 5 (.tmp 50) (.tmp 53)) [7, 10],
 op 55 (.load true 5 (.tmp 54)) [11], op 56 (.call 912 false (.tmp 43) [(.tmp 49), (.tmp 55)]) [0, 6, 12], op 57 (.bin .lss (.tmp 56) (ic 0)) [13], op 58 (.un .not (.tmp 57)) [14]])
  (.cond (.tmp 58)
  .ret
  .skip))
  (.seq (.drawn [od 59 (.move (.tmp 0)), od 60 (.move (.tmp 3)), od 61 (.move (.tmp 10)), op 62 (.bin .add (.tmp 60) (.tmp 61)) [1, 2],
 od 63 (.move (.tmp 0)), od 64 (.move (.tmp 3)), od 65 (.move (.tmp 11)), op 66 (.bin .add (.tmp 64) (.tmp 65)) [5, 6],
 od 67 (.move (.tmp 0)), od 68 (.move (.tmp 3)), od 69 (.move (.tmp 11)), op 70 (.bin .add (.tmp 68) (.tmp 69)) [9, 10],
 op 71 (.indexAddr 5 (.tmp 67) (.tmp 70)) [8, 11], op 72 (.load true 5 (.tmp 71)) [12], od 73 (.move (.tmp 0)), od 74 (.move (.tmp 3)),
 od 75 (.move (.tmp 10)), op 76 (.bin .add (.tmp 74) (.tmp 75)) [15, 16], op 77 (.indexAddr 5 (.tmp 73) (.tmp 76)) [14, 17], op 78 (.load true 5 (.tmp 77)) [18],
 op 79 (.indexAddr 5 (.tmp 59) (.tmp 62)) [0, 3, 0, 1, 2, 3, 8, 9, 10, 11, 12, 13, 19], ⟨none, .store true 5 (.tmp 79) (.tmp 72), none, [20, 13, 0, 1, 2, 3, 8, 9, 10, 11, 12, 13, 19]⟩, op 80 (.indexAddr 5 (.tmp 63) (.tmp 66)) ([4, 7] ++ rg 22), ⟨none, .store true 5 (.tmp 80) (.tmp 78), none, ([22, 19, 21] ++ rg 22)⟩])
  (.region [od 81 (.move (.tmp 11)), od 10 (.move (.tmp 81))])))))))
def f53_b : ACode :=
  (.seq (.region [od 12 (.move (.tmp 1)), od 10 (.move (.tmp 12))])
  (.block 0 (.loop f53_l0)))
def f53 : AFunc := ⟨5, 82, [some 5, none, none, none, none], [], f53_b⟩

/-! 54: slices.nextPowerOfTwo -/
def f54_b : ACode :=
  (.seq (.region [od 2 (.move (.const (.int .u64 0)))])
  (.seq (.region [od 3 (.move (.tmp 0)), od 4 (.convInt .u64 (.tmp 3)), od 5 (.call 96 false (fc 40) [(.tmp 4)]), od 6 (.bin .shl (.const (.int .u64 1)) (.tmp 5)),
 od 2 (.move (.tmp 6))])
  .ret))
def f54 : AFunc := ⟨1, 7, [], [.tmp 2], f54_b⟩

/-! 55: (*slices.xorshift).Next -/
def f55_b : ACode :=
  (.seq (.region [od 2 (.move (.const (.int .u64 0)))])
  (.seq (.drawn [od 3 (.move (.tmp 0)), op 4 (.nilCheck (.tmp 3)) [0], op 5 (.load false 1 (.tmp 4)) [1], od 6 (.move (.tmp 0)),
 op 7 (.nilCheck (.tmp 6)) [3], op 8 (.load false 1 (.tmp 7)) [4], op 9 (.bin .shl (.tmp 8) (.const (.int .u64 13))) [5], op 10 (.bin .xor (.tmp 5) (.tmp 9)) [2, 6],
 op 11 (.nilCheck (.tmp 3)) ([0] ++ rg 8), ⟨none, .store false 1 (.tmp 11) (.tmp 10), none, ([8, 7] ++ rg 8)⟩])
  (.seq (.drawn [od 12 (.move (.tmp 0)), op 13 (.nilCheck (.tmp 12)) [0], op 14 (.load false 1 (.tmp 13)) [1], od 15 (.move (.tmp 0)),
 op 16 (.nilCheck (.tmp 15)) [3], op 17 (.load false 1 (.tmp 16)) [4], op 18 (.bin .shr (.tmp 17) (.const (.int .u64 7))) [5], op 19 (.bin .xor (.tmp 14) (.tmp 18)) [2, 6],
 op 20 (.nilCheck (.tmp 12)) ([0] ++ rg 8), ⟨none, .store false 1 (.tmp 20) (.tmp 19), none, ([8, 7] ++ rg 8)⟩])
  (.seq (.drawn [od 21 (.move (.tmp 0)), op 22 (.nilCheck (.tmp 21)) [0], op 23 (.load false 1 (.tmp 22)) [1], od 24 (.move (.tmp 0)),
 op 25 (.nilCheck (.tmp 24)) [3], op 26 (.load false 1 (.tmp 25)) [4], op 27 (.bin .shl (.tmp 26) (.const (.int .u64 17))) [5], op 28 (.bin .xor (.tmp 23) (.tmp 27)) [2, 6],
 op 29 (.nilCheck (.tmp 21)) ([0] ++ rg 8), ⟨none, .store false 1 (.tmp 29) (.tmp 28), none, ([8, 7] ++ rg 8)⟩])
  (.seq (.region [od 30 (.move (.tmp 0)), od 31 (.nilCheck (.tmp 30)), od 32 (.load false 1 (.tmp 31)), od 2 (.move (.tmp 32))])
  .ret)))))
def f55 : AFunc := ⟨1, 33, [some 1], [.tmp 2], f55_b⟩

/-! 56: slices.medianAdjacentCmpFunc[hachure/api.Event] -/
def f56_b : ACode :=
  (.seq (.region [od 8 (.move (ic 0))])
  (.seq (.region [od 9 (.move (.tmp 0)), od 10 (.move (.tmp 1)), od 11 (.bin .sub (.tmp 10) (ic 1)), od 12 (.move (.tmp 1)),
 od 13 (.move (.tmp 1)), od 14 (.bin .add (.tmp 13) (ic 1)), od 15 (.move (.tmp 2)), od 16 (.move (.tmp 3)),
 od 17 (.call 288 false (fc 57) [(.tmp 9), (.tmp 11), (.tmp 12), (.tmp 14), (.tmp 15), (.tmp 16)]), od 8 (.move (.tmp 17))])
  .ret))
def f56 : AFunc := ⟨4, 18, [none, none, some 1, none], [.tmp 8], f56_b⟩

/-! 57: slices.medianCmpFunc[hachure/api.Event] -/
def f57_b : ACode :=
  (.seq (.region [od 12 (.move (ic 0))])
  (.seq (.region [od 14 (.move (.tmp 0)), od 15 (.move (.tmp 1)), od 16 (.move (.tmp 2)), od 17 (.move (.tmp 4)),
 od 18 (.move (.tmp 5)), od 19 (.call 320 false (fc 58) [(.tmp 14), (.tmp 15), (.tmp 16), (.tmp 17), (.tmp 18)]), od 13 (.move (.tmp 19)), od 20 (.extract (.tmp 13) 0),
 od 21 (.extract (.tmp 13) 1), od 1 (.move (.tmp 20)), od 2 (.move (.tmp 21))])
  (.seq (.region [od 23 (.move (.tmp 0)), od 24 (.move (.tmp 2)), od 25 (.move (.tmp 3)), od 26 (.move (.tmp 4)),
 od 27 (.move (.tmp 5)), od 28 (.call 464 false (fc 58) [(.tmp 23), (.tmp 24), (.tmp 25), (.tmp 26), (.tmp 27)]), od 22 (.move (.tmp 28)), od 29 (.extract (.tmp 22) 0),
 od 30 (.extract (.tmp 22) 1), od 2 (.move (.tmp 29)), od 3 (.move (.tmp 30))])
  (.seq (.region [od 32 (.move (.tmp 0)), od 33 (.move (.tmp 1)), od 34 (.move (.tmp 2)), od 35 (.move (.tmp 4)),
 od 36 (.move (.tmp 5)), od 37 (.call 608 false (fc 58) [(.tmp 32), (.tmp 33), (.tmp 34), (.tmp 35), (.tmp 36)]), od 31 (.move (.tmp 37)), od 38 (.extract (.tmp 31) 0),
 od 39 (.extract (.tmp 31) 1), od 1 (.move (.tmp 38)), od 2 (.move (.tmp 39))])
  (.seq (.region [od 40 (.move (.tmp 2)), od 12 (.move (.tmp 40))])
  .ret)))))
def f57 : AFunc := ⟨6, 41, [none, none, none, none, some 1, none], [.tmp 12], f57_b⟩

/-! 235: hachure/hachureref04.SpotSide -/
def f235_b : ACode :=
  (.seq (.region [od 3 (.new 64 3 (.tmp 0)), od 4 (.new 80 3 (.tmp 1)), od 5 (.new 96 3 (.tmp 2)), od 6 (.move (ic 0))])
  (.seq (.seq (.region [od 11 (.load true 3 (.tmp 3)), od 12 (.call 208 false (fc 270) [(.tmp 11)]), od 13 (.move (.tmp 12)), ⟨some 14, .load true 3 (.tmp 4), some (13, false), []⟩,
 ⟨some 15, .call 256 false (fc 270) [(.tmp 14)], some (13, false), []⟩, od 16 (.pick (.tmp 13) (.const (.bool true)) (.tmp 15)), od 17 (.move (.tmp 16)), ⟨some 18, .load true 3 (.tmp 5), some (17, false), []⟩,
 ⟨some 19, .call 320 false (fc 270) [(.tmp 18)], some (17, false), []⟩, od 20 (.pick (.tmp 17) (.const (.bool true)) (.tmp 19))])
  (.cond (.tmp 20)
  (.seq (.region [od 6 (.move (ic 0))])
  .ret)
  .skip))
  (.seq (.region [od 21 (.fieldAddr 0 (.tmp 4)), od 22 (.load false 1 (.tmp 21)), od 23 (.fieldAddr 2 (.tmp 3)), od 24 (.load false 1 (.tmp 23)),
 od 25 (.bin .mul (.tmp 22) (.tmp 24)), od 26 (.fieldAddr 0 (.tmp 3)), od 27 (.load false 1 (.tmp 26)), od 28 (.fieldAddr 2 (.tmp 4)),
 od 29 (.load false 1 (.tmp 28)), od 30 (.bin .mul (.tmp 27) (.tmp 29)), od 31 (.bin .sub (.tmp 25) (.tmp 30)), od 7 (.move (.tmp 31))])
  (.seq (.region [od 32 (.fieldAddr 1 (.tmp 4)), od 33 (.load false 1 (.tmp 32)), od 34 (.fieldAddr 2 (.tmp 3)), od 35 (.load false 1 (.tmp 34)),
 od 36 (.bin .mul (.tmp 33) (.tmp 35)), od 37 (.fieldAddr 1 (.tmp 3)), od 38 (.load false 1 (.tmp 37)), od 39 (.fieldAddr 2 (.tmp 4)),
 od 40 (.load false 1 (.tmp 39)), od 41 (.bin .mul (.tmp 38) (.tmp 40)), od 42 (.bin .sub (.tmp 36) (.tmp 41)), od 8 (.move (.tmp 42))])
  (.seq (.region [od 43 (.fieldAddr 0 (.tmp 5)), od 44 (.load false 1 (.tmp 43)), od 45 (.fieldAddr 2 (.tmp 3)), od 46 (.load false 1 (.tmp 45)),
 od 47 (.bin .mul (.tmp 44) (.tmp 46)), od 48 (.fieldAddr 0 (.tmp 3)), od 49 (.load false 1 (.tmp 48)), od 50 (.fieldAddr 2 (.tmp 5)),
 od 51 (.load false 1 (.tmp 50)), od 52 (.bin .mul (.tmp 49) (.tmp 51)), od 53 (.bin .sub (.tmp 47) (.tmp 52)), od 9 (.move (.tmp 53))])
  (.seq (.region [od 54 (.fieldAddr 1 (.tmp 5)), od 55 (.load false 1 (.tmp 54)), od 56 (.fieldAddr 2 (.tmp 3)), od 57 (.load false 1 (.tmp 56)),
 od 58 (.bin .mul (.tmp 55) (.tmp 57)), od 59 (.fieldAddr 1 (.tmp 3)), od 60 (.load false 1 (.tmp 59)), od 61 (.fieldAddr 2 (.tmp 5)),
 od 62 (.load false 1 (.tmp 61)), od 63 (.bin .mul (.tmp 60) (.tmp 62)), od 64 (.bin .sub (.tmp 58) (.tmp 63)), od 10 (.move (.tmp 64))])
  (.seq (.region [od 65 (.move (.tmp 7)), od 66 (.move (.tmp 10)), od 67 (.move (.tmp 8)), od 68 (.move (.tmp 9)),
 od 69 (.call 1120 false (fc 271) [(.tmp 65), (.tmp 66), (.tmp 67), (.tmp 68)]), od 6 (.move (.tmp 69))])
  .ret)))))))
def f235 : AFunc := ⟨3, 70, [], [.tmp 6], f235_b⟩

/-! 236: hachure/hachureref07.side -/
def f236_b : ACode :=
  (.seq (.region [od 4 (.new 80 2 (.tmp 1)), od 5 (.new 96 2 (.tmp 2)), od 6 (.move (ic 0))])
  (.seq (.region [od 9 (.move (.tmp 0)), od 10 (.build [.int .i64 0, .int .i64 0] [(0, 1, (.tmp 9)), (1, 1, (ic 1))]), od 11 (.load true 2 (.tmp 4)), od 12 (.call 208 false (fc 238) [(.tmp 10), (.tmp 11)]),
 od 7 (.move (.tmp 12))])
  (.seq (.region [od 13 (.move (.tmp 0)), od 14 (.build [.int .i64 0, .int .i64 0] [(0, 1, (.tmp 13)), (1, 1, (ic 1))]), od 15 (.load true 2 (.tmp 5)), od 16 (.call 272 false (fc 238) [(.tmp 14), (.tmp 15)]),
 od 8 (.move (.tmp 16))])
  (.seq (.seq (.region [od 17 (.move (.tmp 7)), od 18 (.move (.tmp 8)), od 19 (.bin .eql (.tmp 17) (.tmp 18))])
  (.cond (.tmp 19)
  (.seq (.region [od 20 (.move (.tmp 7)), od 6 (.move (.tmp 20))])
  .ret)
  .skip))
  (.seq (.region [od 6 (.move (ic 0))])
  .ret)))))
def f236 : AFunc := ⟨3, 21, [], [.tmp 6], f236_b⟩

/-! 237: hachure/hachureref06.above -/
def f237_b : ACode :=
  (.seq (.region [od 2 (.new 48 3 (.tmp 0)), od 3 (.new 64 2 (.tmp 1)), od 4 (.move (.const (.bool false)))])
  (.seq (.region [od 5 (.fieldAddr 1 (.tmp 2)), od 6 (.load false 1 (.tmp 5)), od 7 (.fieldAddr 2 (.tmp 2)), od 8 (.load false 1 (.tmp 7)),
 od 9 (.build [.int .i64 0, .int .i64 0] [(0, 1, (.tmp 6)), (1, 1, (.tmp 8))]), od 10 (.fieldAddr 1 (.tmp 3)), od 11 (.load false 1 (.tmp 10)), od 12 (.build [.int .i64 0, .int .i64 0] [(0, 1, (.tmp 11)), (1, 1, (ic 1))]),
 od 13 (.call 224 false (fc 238) [(.tmp 9), (.tmp 12)]), od 14 (.bin .gtr (.tmp 13) (ic 0)), od 4 (.move (.tmp 14))])
  .ret))
def f237 : AFunc := ⟨2, 15, [], [.tmp 4], f237_b⟩

/-! 238: hachure/hachureref01.Cmp -/
def f238_b : ACode :=
  (.seq (.region [od 2 (.new 48 2 (.tmp 0)), od 3 (.new 64 2 (.tmp 1)), od 4 (.move (ic 0))])
  (.seq (.seq (.region [od 5 (.fieldAddr 1 (.tmp 2)), od 6 (.load false 1 (.tmp 5)), od 7 (.bin .lss (.tmp 6) (ic 1)), od 8 (.move (.tmp 7)),
 ⟨some 9, .fieldAddr 1 (.tmp 3), some (8, false), []⟩, ⟨some 10, .load false 1 (.tmp 9), some (8, false), []⟩, ⟨some 11, .bin .lss (.tmp 10) (ic 1), some (8, false), []⟩, od 12 (.pick (.tmp 8) (.const (.bool true)) (.tmp 11))])
  (.cond (.tmp 12)
  (.seq (.region [od 4 (.move (ic 0))])
  .ret)
  .skip))
  (.seq (.region [od 13 (.fieldAddr 0 (.tmp 2)), od 14 (.load false 1 (.tmp 13)), od 15 (.fieldAddr 1 (.tmp 3)), od 16 (.load false 1 (.tmp 15)),
 od 17 (.fieldAddr 0 (.tmp 3)), od 18 (.load false 1 (.tmp 17)), od 19 (.fieldAddr 1 (.tmp 2)), od 20 (.load false 1 (.tmp 19)),
 od 21 (.call 352 false (fc 271) [(.tmp 14), (.tmp 16), (.tmp 18), (.tmp 20)]), od 4 (.move (.tmp 21))])
  .ret)))
def f238 : AFunc := ⟨2, 22, [], [.tmp 4], f238_b⟩

/-! 58: slices.order2CmpFunc[hachure/api.Event] -/
def f58_b : ACode :=
  (.seq (.region [od 10 (.move (ic 0)), od 11 (.move (ic 0))])
  (.seq (.seq (.drawn [od 12 (.move (.tmp 4)), od 13 (.move (.tmp 0)), od 14 (.move (.tmp 2)), op 15 (.indexAddr 5 (.tmp 13) (.tmp 14)) [1, 2],
 op 16 (.load true 5 (.tmp 15)) [3], od 17 (.move (.tmp 0)), od 18 (.move (.tmp 1)), op 19 (.indexAddr 5 (.tmp 17) (.tmp 18)) [5, 6],
 op 20 (.load true 5 (.tmp 19)) [7], op 21 (.call 352 false (.tmp 12) [(.tmp 16), (.tmp 20)]) [0, 4, 8], op 22 (.bin .lss (.tmp 21) (ic 0)) [9]])
  (.cond (.tmp 22)
  (.seq (.region [od 23 (.move (.tmp 3)), od 24 (.nilCheck (.tmp 23)), od 25 (.load false 1 (.tmp 24)), od 26 (.bin .add (.tmp 25) (ic 1)),
 od 27 (.nilCheck (.tmp 23)), ow (.store false 1 (.tmp 27) (.tmp 26))])
  (.seq (.region [od 28 (.move (.tmp 2)), od 29 (.move (.tmp 1)), od 10 (.move (.tmp 28)), od 11 (.move (.tmp 29))])
  .ret))
  .skip))
  (.seq (.region [od 30 (.move (.tmp 1)), od 31 (.move (.tmp 2)), od 10 (.move (.tmp 30)), od 11 (.move (.tmp 31))])
  .ret)))
def f58 : AFunc := ⟨5, 32, [none, none, none, some 1, none], [.tmp 10, .tmp 11], f58_b⟩

/-! 270: hachure/hachureref04.far -/
def f270_b : ACode :=
  (.seq (.region [od 1 (.new 32 3 (.tmp 0)), od 2 (.move (.const (.bool false)))])
  (.seq (.region [od 3 (.fieldAddr 2 (.tmp 1)), od 4 (.load false 1 (.tmp 3)), od 5 (.call 96 false (fc 282) [(.tmp 4), (ic 1), (ic 4194304)]), od 6 (.un .not (.tmp 5)),
 od 7 (.move (.tmp 6)), ⟨some 8, .fieldAddr 0 (.tmp 1), some (7, false), []⟩, ⟨some 9, .load false 1 (.tmp 8), some (7, false), []⟩, ⟨some 10, .call 176 false (fc 282) [(.tmp 9), (ic (-137438953472)), (ic 137438953472)], some (7, false), []⟩,
 ⟨some 11, .un .not (.tmp 10), some (7, false), []⟩, od 12 (.pick (.tmp 7) (.const (.bool true)) (.tmp 11)), od 13 (.move (.tmp 12)), ⟨some 14, .fieldAddr 1 (.tmp 1), some (13, false), []⟩,
 ⟨some 15, .load false 1 (.tmp 14), some (13, false), []⟩, ⟨some 16, .call 272 false (fc 282) [(.tmp 15), (ic (-137438953472)), (ic 137438953472)], some (13, false), []⟩, ⟨some 17, .un .not (.tmp 16), some (13, false), []⟩, od 18 (.pick (.tmp 13) (.const (.bool true)) (.tmp 17)),
 od 2 (.move (.tmp 18))])
  .ret))
def f270 : AFunc := ⟨1, 19, [], [.tmp 2], f270_b⟩

/-! 271: hachure/hachureref01.Sign2 -/
abbrev f271_l0 : ACode :=
  (.seq (.seq (.region [od 41 (.move (.tmp 13)), od 42 (.bin .lss (.tmp 41) (ic 2))])
  (.cond (.tmp 42)
  .skip
  (.exit 0)))
  (.seq (.block 1 (.seq (.seq (.drawn [od 45 (.move (.tmp 13)), op 46 (.indexArr 2 1 (.tmp 11) (.tmp 45)) [0], op 47 (.load false 1 (.tmp 46)) [1], od 48 (.move (.tmp 13)),
 op 49 (.indexArr 2 1 (.tmp 12) (.tmp 48)) [3], op 50 (.load false 1 (.tmp 49)) [4], op 51 (.bin .gtr (.tmp 47) (.tmp 50)) [2, 5]])
  (.cond (.tmp 51)
  (.seq (.region [od 52 (.move (.tmp 9)), od 8 (.move (.tmp 52))])
  .ret)
  .skip))
  (.seq (.drawn [od 53 (.move (.tmp 13)), op 54 (.indexArr 2 1 (.tmp 11) (.tmp 53)) [0], op 55 (.load false 1 (.tmp 54)) [1], od 56 (.move (.tmp 13)),
 op 57 (.indexArr 2 1 (.tmp 12) (.tmp 56)) [3], op 58 (.load false 1 (.tmp 57)) [4], op 59 (.bin .lss (.tmp 55) (.tmp 58)) [2, 5]])
  (.cond (.tmp 59)
  (.seq (.region [od 60 (.move (.tmp 9)), od 61 (.un .neg (.tmp 60)), od 8 (.move (.tmp 61))])
  .ret)
  .skip))))
  (.region [od 43 (.move (.tmp 13)), od 44 (.bin .add (.tmp 43) (ic 1)), od 13 (.move (.tmp 44))])))
def f271_b : ACode :=
  (.seq (.region [od 8 (.move (ic 0))])
  (.seq (.region [od 14 (.move (.tmp 0)), od 15 (.call 256 false (fc 283) [(.tmp 14)]), od 16 (.move (.tmp 1)), od 17 (.call 288 false (fc 283) [(.tmp 16)]),
 od 18 (.bin .mul (.tmp 15) (.tmp 17)), od 9 (.move (.tmp 18))])
  (.seq (.region [od 19 (.move (.tmp 2)), od 20 (.call 336 false (fc 283) [(.tmp 19)]), od 21 (.move (.tmp 3)), od 22 (.call 368 false (fc 283) [(.tmp 21)]),
 od 23 (.bin .mul (.tmp 20) (.tmp 22)), od 10 (.move (.tmp 23))])
  (.seq (.seq (.region [od 24 (.move (.tmp 9)), od 25 (.move (.tmp 10)), od 26 (.bin .neq (.tmp 24) (.tmp 25))])
  (.cond (.tmp 26)
  (.seq (.region [od 27 (.move (.tmp 9)), od 28 (.move (.tmp 10)), od 29 (.bin .sub (.tmp 27) (.tmp 28)), od 30 (.call 496 false (fc 283) [(.tmp 29)]),
 od 8 (.move (.tmp 30))])
  .ret)
  .skip))
  (.seq (.region [od 31 (.move (.tmp 0)), od 32 (.call 528 false (fc 285) [(.tmp 31)]), od 33 (.move (.tmp 1)), od 34 (.call 560 false (fc 285) [(.tmp 33)]),
 od 35 (.call 576 false (fc 284) [(.tmp 32), (.tmp 34)]), od 11 (.new 192 2 (.const (.agg [.int .u64 0, .int .u64 0]))), ow (.store true 2 (.tmp 11) (.tmp 35))])
  (.seq (.region [od 36 (.move (.tmp 2)), od 37 (.call 608 false (fc 285) [(.tmp 36)]), od 38 (.move (.tmp 3)), od 39 (.call 640 false (fc 285) [(.tmp 38)]),
 od 40 (.call 656 false (fc 284) [(.tmp 37), (.tmp 39)]), od 12 (.new 208 2 (.const (.agg [.int .u64 0, .int .u64 0]))), ow (.store true 2 (.tmp 12) (.tmp 40))])
  (.seq (.seq (.region [od 13 (.move (ic 0))])
  (.block 0 (.loop f271_l0)))
  (.seq (.region [od 8 (.move (ic 0))])
  .ret))))))))
def f271 : AFunc := ⟨4, 62, [], [.tmp 8], f271_b⟩

/-! 282: hachure/hachureref04.between -/
def f282_b : ACode :=
  (.seq (.region [od 6 (.move (.const (.bool false)))])
  (.seq (.region [od 7 (.move (.tmp 1)), od 8 (.move (.tmp 0)), od 9 (.bin .leq (.tmp 7) (.tmp 8)), od 10 (.move (.tmp 9)),
 ⟨some 11, .move (.tmp 0), some (10, true), []⟩, ⟨some 12, .move (.tmp 2), some (10, true), []⟩, ⟨some 13, .bin .leq (.tmp 11) (.tmp 12), some (10, true), []⟩, od 14 (.pick (.tmp 10) (.tmp 13) (.const (.bool false))),
 od 6 (.move (.tmp 14))])
  .ret))
def f282 : AFunc := ⟨3, 15, [], [.tmp 6], f282_b⟩

/-! 283: hachure/hachureref01.sign -/
def f283_b : ACode :=
  (.seq (.region [od 2 (.move (ic 0))])
  (.seq (.seq (.region [od 3 (.move (.tmp 0)), od 4 (.bin .gtr (.tmp 3) (ic 0))])
  (.cond (.tmp 4)
  (.seq (.region [od 2 (.move (ic 1))])
  .ret)
  .skip))
  (.seq (.seq (.region [od 5 (.move (.tmp 0)), od 6 (.bin .lss (.tmp 5) (ic 0))])
  (.cond (.tmp 6)
  (.seq (.region [od 2 (.move (ic (-1)))])
  .ret)
  .skip))
  (.seq (.region [od 2 (.move (ic 0))])
  .ret))))
def f283 : AFunc := ⟨1, 7, [], [.tmp 2], f283_b⟩

/-! 284: hachure/hachureref01.product -/
def f284_b : ACode :=
  (.seq (.region [od 4 (.new 80 2 (.const (.agg [.int .u64 0, .int .u64 0])))])
  (.seq (.region [od 5 (.move (.const (.int .u64 4294967295)))])
  (.seq (.region [od 12 (.move (.tmp 0)), od 13 (.bin .shr (.tmp 12) (.const (.int .u64 32))), od 6 (.move (.tmp 13))])
  (.seq (.region [od 14 (.move (.tmp 0)), od 15 (.move (.tmp 5)), od 16 (.bin .and (.tmp 14) (.tmp 15)), od 7 (.move (.tmp 16))])
  (.seq (.region [od 17 (.move (.tmp 1)), od 18 (.bin .shr (.tmp 17) (.const (.int .u64 32))), od 8 (.move (.tmp 18))])
  (.seq (.region [od 19 (.move (.tmp 1)), od 20 (.move (.tmp 5)), od 21 (.bin .and (.tmp 19) (.tmp 20)), od 9 (.move (.tmp 21))])
  (.seq (.region [od 22 (.move (.tmp 6)), od 23 (.move (.tmp 9)), od 24 (.bin .mul (.tmp 22) (.tmp 23)), od 25 (.move (.tmp 7)),
 od 26 (.move (.tmp 9)), od 27 (.bin .mul (.tmp 25) (.tmp 26)), od 28 (.bin .shr (.tmp 27) (.const (.int .u64 32))), od 29 (.bin .add (.tmp 24) (.tmp 28)),
 od 10 (.move (.tmp 29))])
  (.seq (.region [od 30 (.move (.tmp 7)), od 31 (.move (.tmp 8)), od 32 (.bin .mul (.tmp 30) (.tmp 31)), od 33 (.move (.tmp 10)),
 od 34 (.move (.tmp 5)), od 35 (.bin .and (.tmp 33) (.tmp 34)), od 36 (.bin .add (.tmp 32) (.tmp 35)), od 11 (.move (.tmp 36))])
  (.seq (.region [od 37 (.move (.tmp 6)), od 38 (.move (.tmp 8)), od 39 (.bin .mul (.tmp 37) (.tmp 38)), od 40 (.move (.tmp 10)),
 od 41 (.bin .shr (.tmp 40) (.const (.int .u64 32))), od 42 (.bin .add (.tmp 39) (.tmp 41)), od 43 (.move (.tmp 11)), od 44 (.bin .shr (.tmp 43) (.const (.int .u64 32))),
 od 45 (.bin .add (.tmp 42) (.tmp 44)), od 46 (.move (.tmp 0)), od 47 (.move (.tmp 1)), od 48 (.bin .mul (.tmp 46) (.tmp 47)),
 od 49 (.build [.int .u64 0, .int .u64 0] [(0, 1, (.tmp 45)), (1, 1, (.tmp 48))]), ow (.store true 2 (.tmp 4) (.tmp 49))])
  .ret)))))))))
def f284 : AFunc := ⟨2, 50, [], [.cell 4 true 2], f284_b⟩

/-! 285: hachure/hachureref01.size -/
def f285_b : ACode :=
  (.seq (.region [od 2 (.move (.const (.int .u64 0)))])
  (.seq (.seq (.region [od 3 (.move (.tmp 0)), od 4 (.bin .lss (.tmp 3) (ic 0))])
  (.cond (.tmp 4)
  (.seq (.region [od 5 (.move (.tmp 0)), od 6 (.convInt .u64 (.tmp 5)), od 7 (.un .neg (.tmp 6)), od 2 (.move (.tmp 7))])
  .ret)
  .skip))
  (.seq (.region [od 8 (.move (.tmp 0)), od 9 (.convInt .u64 (.tmp 8)), od 2 (.move (.tmp 9))])
  .ret)))
def f285 : AFunc := ⟨1, 10, [], [.tmp 2], f285_b⟩


/-- the functions by their numbers -/
def envTab : List (Nat × AFunc) := [(75, f75), (5, f5), (77, f77), (78, f78), (79, f79), (13, f13), (8, f8), (12, f12), (7, f7), (14, f14), (10, f10), (9, f9), (83, f83), (84, f84), (85, f85), (86, f86), (87, f87), (88, f88), (89, f89), (90, f90), (91, f91), (92, f92), (93, f93), (94, f94), (95, f95), (15, f15), (27, f27), (24, f24), (16, f16), (17, f17), (18, f18), (19, f19), (20, f20), (21, f21), (22, f22), (23, f23), (25, f25), (26, f26), (113, f113), (114, f114), (115, f115), (116, f116), (117, f117), (118, f118), (119, f119), (120, f120), (121, f121), (122, f122), (123, f123), (124, f124), (125, f125), (126, f126), (127, f127), (128, f128), (129, f129), (130, f130), (131, f131), (41, f41), (37, f37), (38, f38), (33, f33), (34, f34), (35, f35), (36, f36), (39, f39), (40, f40), (161, f161), (162, f162), (163, f163), (164, f164), (165, f165), (166, f166), (42, f42), (43, f43), (44, f44), (45, f45), (46, f46), (47, f47), (48, f48), (49, f49), (50, f50), (51, f51), (198, f198), (199, f199), (200, f200), (201, f201), (202, f202), (53, f53), (54, f54), (55, f55), (56, f56), (57, f57), (235, f235), (236, f236), (237, f237), (238, f238), (58, f58), (270, f270), (271, f271), (282, f282), (283, f283), (284, f284), (285, f285)]
/-- functions that are answered by themselves -/
def envExt : List (Nat × (List V → Option Res)) := [(28, cloneV 4 2872193639704), (29, cloneV 5 2469078742875), (30, cloneV 8 1450901941607), (31, cloneV 7 1927910799188), (32, cloneV 2 8278675785407), (52, sqrtV)]
def E : Env := ⟨fnOf envTab, extOf envExt⟩
theorem E_75 : E.fn 75 = some f75 := rfl
theorem X_75 (as : List V) : E.ext 75 as = none := rfl
theorem E_5 : E.fn 5 = some f5 := rfl
theorem X_5 (as : List V) : E.ext 5 as = none := rfl
theorem E_77 : E.fn 77 = some f77 := rfl
theorem X_77 (as : List V) : E.ext 77 as = none := rfl
theorem E_78 : E.fn 78 = some f78 := rfl
theorem X_78 (as : List V) : E.ext 78 as = none := rfl
theorem E_79 : E.fn 79 = some f79 := rfl
theorem X_79 (as : List V) : E.ext 79 as = none := rfl
theorem E_13 : E.fn 13 = some f13 := rfl
theorem X_13 (as : List V) : E.ext 13 as = none := rfl
theorem E_8 : E.fn 8 = some f8 := rfl
theorem X_8 (as : List V) : E.ext 8 as = none := rfl
theorem E_12 : E.fn 12 = some f12 := rfl
theorem X_12 (as : List V) : E.ext 12 as = none := rfl
theorem E_7 : E.fn 7 = some f7 := rfl
theorem X_7 (as : List V) : E.ext 7 as = none := rfl
theorem E_14 : E.fn 14 = some f14 := rfl
theorem X_14 (as : List V) : E.ext 14 as = none := rfl
theorem E_10 : E.fn 10 = some f10 := rfl
theorem X_10 (as : List V) : E.ext 10 as = none := rfl
theorem E_9 : E.fn 9 = some f9 := rfl
theorem X_9 (as : List V) : E.ext 9 as = none := rfl
theorem E_83 : E.fn 83 = some f83 := rfl
theorem X_83 (as : List V) : E.ext 83 as = none := rfl
theorem E_84 : E.fn 84 = some f84 := rfl
theorem X_84 (as : List V) : E.ext 84 as = none := rfl
theorem E_85 : E.fn 85 = some f85 := rfl
theorem X_85 (as : List V) : E.ext 85 as = none := rfl
theorem E_86 : E.fn 86 = some f86 := rfl
theorem X_86 (as : List V) : E.ext 86 as = none := rfl
theorem E_87 : E.fn 87 = some f87 := rfl
theorem X_87 (as : List V) : E.ext 87 as = none := rfl
theorem E_88 : E.fn 88 = some f88 := rfl
theorem X_88 (as : List V) : E.ext 88 as = none := rfl
theorem E_89 : E.fn 89 = some f89 := rfl
theorem X_89 (as : List V) : E.ext 89 as = none := rfl
theorem E_90 : E.fn 90 = some f90 := rfl
theorem X_90 (as : List V) : E.ext 90 as = none := rfl
theorem E_91 : E.fn 91 = some f91 := rfl
theorem X_91 (as : List V) : E.ext 91 as = none := rfl
theorem E_92 : E.fn 92 = some f92 := rfl
theorem X_92 (as : List V) : E.ext 92 as = none := rfl
theorem E_93 : E.fn 93 = some f93 := rfl
theorem X_93 (as : List V) : E.ext 93 as = none := rfl
theorem E_94 : E.fn 94 = some f94 := rfl
theorem X_94 (as : List V) : E.ext 94 as = none := rfl
theorem E_95 : E.fn 95 = some f95 := rfl
theorem X_95 (as : List V) : E.ext 95 as = none := rfl
theorem E_15 : E.fn 15 = some f15 := rfl
theorem X_15 (as : List V) : E.ext 15 as = none := rfl
theorem E_27 : E.fn 27 = some f27 := rfl
theorem X_27 (as : List V) : E.ext 27 as = none := rfl
theorem E_24 : E.fn 24 = some f24 := rfl
theorem X_24 (as : List V) : E.ext 24 as = none := rfl
theorem E_16 : E.fn 16 = some f16 := rfl
theorem X_16 (as : List V) : E.ext 16 as = none := rfl
theorem E_17 : E.fn 17 = some f17 := rfl
theorem X_17 (as : List V) : E.ext 17 as = none := rfl
theorem E_18 : E.fn 18 = some f18 := rfl
theorem X_18 (as : List V) : E.ext 18 as = none := rfl
theorem E_19 : E.fn 19 = some f19 := rfl
theorem X_19 (as : List V) : E.ext 19 as = none := rfl
theorem E_20 : E.fn 20 = some f20 := rfl
theorem X_20 (as : List V) : E.ext 20 as = none := rfl
theorem E_21 : E.fn 21 = some f21 := rfl
theorem X_21 (as : List V) : E.ext 21 as = none := rfl
theorem E_22 : E.fn 22 = some f22 := rfl
theorem X_22 (as : List V) : E.ext 22 as = none := rfl
theorem E_23 : E.fn 23 = some f23 := rfl
theorem X_23 (as : List V) : E.ext 23 as = none := rfl
theorem E_25 : E.fn 25 = some f25 := rfl
theorem X_25 (as : List V) : E.ext 25 as = none := rfl
theorem E_26 : E.fn 26 = some f26 := rfl
theorem X_26 (as : List V) : E.ext 26 as = none := rfl
theorem E_113 : E.fn 113 = some f113 := rfl
theorem X_113 (as : List V) : E.ext 113 as = none := rfl
theorem E_114 : E.fn 114 = some f114 := rfl
theorem X_114 (as : List V) : E.ext 114 as = none := rfl
theorem E_115 : E.fn 115 = some f115 := rfl
theorem X_115 (as : List V) : E.ext 115 as = none := rfl
theorem E_116 : E.fn 116 = some f116 := rfl
theorem X_116 (as : List V) : E.ext 116 as = none := rfl
theorem E_117 : E.fn 117 = some f117 := rfl
theorem X_117 (as : List V) : E.ext 117 as = none := rfl
theorem E_118 : E.fn 118 = some f118 := rfl
theorem X_118 (as : List V) : E.ext 118 as = none := rfl
theorem E_119 : E.fn 119 = some f119 := rfl
theorem X_119 (as : List V) : E.ext 119 as = none := rfl
theorem E_120 : E.fn 120 = some f120 := rfl
theorem X_120 (as : List V) : E.ext 120 as = none := rfl
theorem E_121 : E.fn 121 = some f121 := rfl
theorem X_121 (as : List V) : E.ext 121 as = none := rfl
theorem E_122 : E.fn 122 = some f122 := rfl
theorem X_122 (as : List V) : E.ext 122 as = none := rfl
theorem E_123 : E.fn 123 = some f123 := rfl
theorem X_123 (as : List V) : E.ext 123 as = none := rfl
theorem E_124 : E.fn 124 = some f124 := rfl
theorem X_124 (as : List V) : E.ext 124 as = none := rfl
theorem E_125 : E.fn 125 = some f125 := rfl
theorem X_125 (as : List V) : E.ext 125 as = none := rfl
theorem E_126 : E.fn 126 = some f126 := rfl
theorem X_126 (as : List V) : E.ext 126 as = none := rfl
theorem E_127 : E.fn 127 = some f127 := rfl
theorem X_127 (as : List V) : E.ext 127 as = none := rfl
theorem E_128 : E.fn 128 = some f128 := rfl
theorem X_128 (as : List V) : E.ext 128 as = none := rfl
theorem E_129 : E.fn 129 = some f129 := rfl
theorem X_129 (as : List V) : E.ext 129 as = none := rfl
theorem E_130 : E.fn 130 = some f130 := rfl
theorem X_130 (as : List V) : E.ext 130 as = none := rfl
theorem E_131 : E.fn 131 = some f131 := rfl
theorem X_131 (as : List V) : E.ext 131 as = none := rfl
theorem E_41 : E.fn 41 = some f41 := rfl
theorem X_41 (as : List V) : E.ext 41 as = none := rfl
theorem E_37 : E.fn 37 = some f37 := rfl
theorem X_37 (as : List V) : E.ext 37 as = none := rfl
theorem E_38 : E.fn 38 = some f38 := rfl
theorem X_38 (as : List V) : E.ext 38 as = none := rfl
theorem E_33 : E.fn 33 = some f33 := rfl
theorem X_33 (as : List V) : E.ext 33 as = none := rfl
theorem E_34 : E.fn 34 = some f34 := rfl
theorem X_34 (as : List V) : E.ext 34 as = none := rfl
theorem E_35 : E.fn 35 = some f35 := rfl
theorem X_35 (as : List V) : E.ext 35 as = none := rfl
theorem E_36 : E.fn 36 = some f36 := rfl
theorem X_36 (as : List V) : E.ext 36 as = none := rfl
theorem E_39 : E.fn 39 = some f39 := rfl
theorem X_39 (as : List V) : E.ext 39 as = none := rfl
theorem E_40 : E.fn 40 = some f40 := rfl
theorem X_40 (as : List V) : E.ext 40 as = none := rfl
theorem E_161 : E.fn 161 = some f161 := rfl
theorem X_161 (as : List V) : E.ext 161 as = none := rfl
theorem E_162 : E.fn 162 = some f162 := rfl
theorem X_162 (as : List V) : E.ext 162 as = none := rfl
theorem E_163 : E.fn 163 = some f163 := rfl
theorem X_163 (as : List V) : E.ext 163 as = none := rfl
theorem E_164 : E.fn 164 = some f164 := rfl
theorem X_164 (as : List V) : E.ext 164 as = none := rfl
theorem E_165 : E.fn 165 = some f165 := rfl
theorem X_165 (as : List V) : E.ext 165 as = none := rfl
theorem E_166 : E.fn 166 = some f166 := rfl
theorem X_166 (as : List V) : E.ext 166 as = none := rfl
theorem E_42 : E.fn 42 = some f42 := rfl
theorem X_42 (as : List V) : E.ext 42 as = none := rfl
theorem E_43 : E.fn 43 = some f43 := rfl
theorem X_43 (as : List V) : E.ext 43 as = none := rfl
theorem E_44 : E.fn 44 = some f44 := rfl
theorem X_44 (as : List V) : E.ext 44 as = none := rfl
theorem E_45 : E.fn 45 = some f45 := rfl
theorem X_45 (as : List V) : E.ext 45 as = none := rfl
theorem E_46 : E.fn 46 = some f46 := rfl
theorem X_46 (as : List V) : E.ext 46 as = none := rfl
theorem E_47 : E.fn 47 = some f47 := rfl
theorem X_47 (as : List V) : E.ext 47 as = none := rfl
theorem E_48 : E.fn 48 = some f48 := rfl
theorem X_48 (as : List V) : E.ext 48 as = none := rfl
theorem E_49 : E.fn 49 = some f49 := rfl
theorem X_49 (as : List V) : E.ext 49 as = none := rfl
theorem E_50 : E.fn 50 = some f50 := rfl
theorem X_50 (as : List V) : E.ext 50 as = none := rfl
theorem E_51 : E.fn 51 = some f51 := rfl
theorem X_51 (as : List V) : E.ext 51 as = none := rfl
theorem E_198 : E.fn 198 = some f198 := rfl
theorem X_198 (as : List V) : E.ext 198 as = none := rfl
theorem E_199 : E.fn 199 = some f199 := rfl
theorem X_199 (as : List V) : E.ext 199 as = none := rfl
theorem E_200 : E.fn 200 = some f200 := rfl
theorem X_200 (as : List V) : E.ext 200 as = none := rfl
theorem E_201 : E.fn 201 = some f201 := rfl
theorem X_201 (as : List V) : E.ext 201 as = none := rfl
theorem E_202 : E.fn 202 = some f202 := rfl
theorem X_202 (as : List V) : E.ext 202 as = none := rfl
theorem E_53 : E.fn 53 = some f53 := rfl
theorem X_53 (as : List V) : E.ext 53 as = none := rfl
theorem E_54 : E.fn 54 = some f54 := rfl
theorem X_54 (as : List V) : E.ext 54 as = none := rfl
theorem E_55 : E.fn 55 = some f55 := rfl
theorem X_55 (as : List V) : E.ext 55 as = none := rfl
theorem E_56 : E.fn 56 = some f56 := rfl
theorem X_56 (as : List V) : E.ext 56 as = none := rfl
theorem E_57 : E.fn 57 = some f57 := rfl
theorem X_57 (as : List V) : E.ext 57 as = none := rfl
theorem E_235 : E.fn 235 = some f235 := rfl
theorem X_235 (as : List V) : E.ext 235 as = none := rfl
theorem E_236 : E.fn 236 = some f236 := rfl
theorem X_236 (as : List V) : E.ext 236 as = none := rfl
theorem E_237 : E.fn 237 = some f237 := rfl
theorem X_237 (as : List V) : E.ext 237 as = none := rfl
theorem E_238 : E.fn 238 = some f238 := rfl
theorem X_238 (as : List V) : E.ext 238 as = none := rfl
theorem E_58 : E.fn 58 = some f58 := rfl
theorem X_58 (as : List V) : E.ext 58 as = none := rfl
theorem E_270 : E.fn 270 = some f270 := rfl
theorem X_270 (as : List V) : E.ext 270 as = none := rfl
theorem E_271 : E.fn 271 = some f271 := rfl
theorem X_271 (as : List V) : E.ext 271 as = none := rfl
theorem E_282 : E.fn 282 = some f282 := rfl
theorem X_282 (as : List V) : E.ext 282 as = none := rfl
theorem E_283 : E.fn 283 = some f283 := rfl
theorem X_283 (as : List V) : E.ext 283 as = none := rfl
theorem E_284 : E.fn 284 = some f284 := rfl
theorem X_284 (as : List V) : E.ext 284 as = none := rfl
theorem E_285 : E.fn 285 = some f285 := rfl
theorem X_285 (as : List V) : E.ext 285 as = none := rfl
theorem E_28 : E.fn 28 = none := rfl
theorem X_28 (as : List V) : E.ext 28 as = cloneV 4 2872193639704 as := rfl
theorem E_29 : E.fn 29 = none := rfl
theorem X_29 (as : List V) : E.ext 29 as = cloneV 5 2469078742875 as := rfl
theorem E_30 : E.fn 30 = none := rfl
theorem X_30 (as : List V) : E.ext 30 as = cloneV 8 1450901941607 as := rfl
theorem E_31 : E.fn 31 = none := rfl
theorem X_31 (as : List V) : E.ext 31 as = cloneV 7 1927910799188 as := rfl
theorem E_32 : E.fn 32 = none := rfl
theorem X_32 (as : List V) : E.ext 32 as = cloneV 2 8278675785407 as := rfl
theorem E_52 : E.fn 52 = none := rfl
theorem X_52 (as : List V) : E.ext 52 as = sqrtV as := rfl

end Go.AM
