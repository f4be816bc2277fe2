/-
  The functions of the seat as the abstract machine's code: printed by program (AmPrint) out of the translation. Own work.
-/
import Derived.Test.YtnjbmkcbhnkggaaAmTab
namespace Go.AM

/-! 3: hachure/hachurelaw15.GatherOne -/
abbrev f3_l0 : ACode :=
  (.seq (.region [
    ⟨some 21, .bin .lss (.tmp 20) (.tmp 19), none, []⟩])
  (.seq (.cond (.tmp 21)
  .skip
  (.exit 0))
  (.seq (.block 1 (.seq (.region [
    ⟨some 22, .move (.tmp 20), none, []⟩,
    ⟨some 5, .move (.tmp 22), none, []⟩])
  (.seq (.region [
    ⟨some 23, .fieldAddr 3 (.tmp 4), none, []⟩,
    ⟨some 24, .load false 1 (.tmp 23), none, []⟩,
    ⟨some 25, .move (.tmp 5), none, []⟩,
    ⟨some 26, .move (.tmp 5), none, []⟩,
    ⟨some 27, .indexAddr 7 (.tmp 24) (.tmp 25), none, []⟩,
    ⟨some 28, .fieldAddr 0 (.tmp 27), none, []⟩,
    ⟨none, .store false 1 (.tmp 28) (.tmp 26), none, []⟩])
  (.drawn [
    ⟨some 29, .fieldAddr 3 (.tmp 4), none, []⟩,
    ⟨some 30, .load false 1 (.tmp 29), none, [0]⟩,
    ⟨some 31, .move (.tmp 5), none, []⟩,
    ⟨some 32, .fieldAddr 3 (.tmp 4), none, []⟩,
    ⟨some 33, .load false 1 (.tmp 32), none, [3]⟩,
    ⟨some 34, .move (.tmp 5), none, []⟩,
    ⟨some 35, .indexAddr 7 (.tmp 33) (.tmp 34), none, [4, 5]⟩,
    ⟨some 36, .fieldAddr 5 (.tmp 35), none, [6]⟩,
    ⟨some 37, .load false 1 (.tmp 36), none, [7]⟩,
    ⟨some 38, .bin .and (.tmp 37) (.const (.int .i64 127)), none, [8]⟩,
    ⟨some 39, .bin .add (.const (.int .i64 1)) (.tmp 38), none, [9]⟩,
    ⟨some 40, .fieldAddr 3 (.tmp 4), none, []⟩,
    ⟨some 41, .load false 1 (.tmp 40), none, [11]⟩,
    ⟨some 42, .move (.tmp 5), none, []⟩,
    ⟨some 43, .indexAddr 7 (.tmp 41) (.tmp 42), none, [12, 13]⟩,
    ⟨some 44, .fieldAddr 5 (.tmp 43), none, [14]⟩,
    ⟨some 45, .load false 1 (.tmp 44), none, [15]⟩,
    ⟨some 46, .bin .shr (.tmp 45) (.const (.int .u64 1)), none, [16]⟩,
    ⟨some 47, .bin .and (.tmp 46) (.const (.int .i64 127)), none, [17]⟩,
    ⟨some 48, .bin .add (.tmp 39) (.tmp 47), none, [10, 18]⟩,
    ⟨some 49, .indexAddr 7 (.tmp 30) (.tmp 31), none, [1, 2, 0, 1, 2, 3, 4, 5, 6, 7, 8, 9, 10, 11, 12, 13, 14, 15, 16, 17, 18, 19]⟩,
    ⟨some 50, .fieldAddr 5 (.tmp 49), none, [20, 0, 1, 2, 3, 4, 5, 6, 7, 8, 9, 10, 11, 12, 13, 14, 15, 16, 17, 18, 19]⟩,
    ⟨none, .store false 1 (.tmp 50) (.tmp 48), none, [21, 19, 0, 1, 2, 3, 4, 5, 6, 7, 8, 9, 10, 11, 12, 13, 14, 15, 16, 17, 18, 19]⟩]))))
  (.region [
    ⟨some 51, .bin .add (.tmp 20) (.const (.int .i64 1)), none, []⟩,
    ⟨some 20, .move (.tmp 51), none, []⟩]))))
abbrev f3_l1 : ACode :=
  (.seq (.region [
    ⟨some 64, .bin .lss (.tmp 63) (.tmp 62), none, []⟩])
  (.seq (.cond (.tmp 64)
  .skip
  (.exit 4))
  (.seq (.block 5 (.seq (.region [
    ⟨some 65, .move (.tmp 63), none, []⟩,
    ⟨some 66, .indexAddr 7 (.tmp 61) (.tmp 63), none, []⟩,
    ⟨some 67, .load true 7 (.tmp 66), none, []⟩,
    ⟨some 9, .new 160 7 (.const (.agg [.int .i64 0, .int .i64 0, .int .i64 0, .str [], .str [], .int .i64 0, .int .i64 0])), none, []⟩,
    ⟨some 8, .move (.tmp 65), none, []⟩,
    ⟨none, .store true 7 (.tmp 9) (.tmp 67), none, []⟩])
  (.seq (.region [
    ⟨some 69, .load true 4 (.tmp 4), none, []⟩,
    ⟨some 70, .move (.tmp 6), none, []⟩,
    ⟨some 71, .move (.tmp 8), none, []⟩,
    ⟨some 72, .call 1168 false (.const (.fn 7 [])) [(.tmp 69), (.tmp 70), (.tmp 71)], none, []⟩,
    ⟨some 68, .move (.tmp 72), none, []⟩,
    ⟨some 73, .extract (.tmp 68) 0, none, []⟩,
    ⟨some 74, .extract (.tmp 68) 1, none, []⟩,
    ⟨some 10, .new 176 4 (.const (.agg [.nils, .nils, .nils, .nils])), none, []⟩,
    ⟨none, .store true 4 (.tmp 10) (.tmp 73), none, []⟩,
    ⟨some 11, .move (.tmp 74), none, []⟩])
  (.seq (.seq (.region [
    ⟨some 75, .move (.tmp 11), none, []⟩,
    ⟨some 76, .bin .neq (.tmp 75) (.const (.int .i64 0)), none, []⟩])
  (.cond (.tmp 76)
  (.exit 5)
  .skip))
  (.seq (.seq (.region [
    ⟨some 77, .move (.tmp 6), none, []⟩,
    ⟨some 78, .move (.tmp 8), none, []⟩,
    ⟨some 79, .bin .eql (.tmp 77) (.tmp 78), none, []⟩,
    ⟨some 80, .move (.tmp 79), none, []⟩,
    ⟨some 81, .load true 4 (.tmp 4), some (80, false), []⟩,
    ⟨some 82, .move (.tmp 8), some (80, false), []⟩,
    ⟨some 83, .move (.tmp 6), some (80, false), []⟩,
    ⟨some 84, .call 1360 false (.const (.fn 8 [])) [(.tmp 81), (.tmp 82), (.tmp 83)], some (80, false), []⟩,
    ⟨some 85, .bin .eql (.tmp 84) (.const (.int .i64 0)), some (80, false), []⟩,
    ⟨some 86, .pick (.tmp 80) (.const (.bool true)) (.tmp 85), none, []⟩,
    ⟨some 87, .move (.tmp 86), none, []⟩,
    ⟨some 88, .fieldAddr 3 (.tmp 10), some (87, false), []⟩,
    ⟨some 89, .load false 1 (.tmp 88), some (87, false), []⟩,
    ⟨some 90, .len (.tmp 89), some (87, false), []⟩,
    ⟨some 91, .fieldAddr 3 (.tmp 4), some (87, false), []⟩,
    ⟨some 92, .load false 1 (.tmp 91), some (87, false), []⟩,
    ⟨some 93, .len (.tmp 92), some (87, false), []⟩,
    ⟨some 94, .bin .sub (.tmp 93) (.const (.int .i64 1)), some (87, false), []⟩,
    ⟨some 95, .bin .neq (.tmp 90) (.tmp 94), some (87, false), []⟩,
    ⟨some 96, .pick (.tmp 87) (.const (.bool true)) (.tmp 95), none, []⟩,
    ⟨some 97, .move (.tmp 96), none, []⟩,
    ⟨some 98, .fieldAddr 3 (.tmp 7), some (97, false), []⟩,
    ⟨some 99, .load false 1 (.tmp 98), some (97, false), []⟩,
    ⟨some 100, .fieldAddr 3 (.tmp 9), some (97, false), []⟩,
    ⟨some 101, .load false 1 (.tmp 100), some (97, false), []⟩,
    ⟨some 102, .bin .neq (.tmp 99) (.tmp 101), some (97, false), []⟩,
    ⟨some 103, .pick (.tmp 97) (.const (.bool true)) (.tmp 102), none, []⟩,
    ⟨some 104, .move (.tmp 103), none, []⟩,
    ⟨some 105, .fieldAddr 6 (.tmp 7), some (104, false), []⟩,
    ⟨some 106, .load false 1 (.tmp 105), some (104, false), []⟩,
    ⟨some 107, .fieldAddr 6 (.tmp 9), some (104, false), []⟩,
    ⟨some 108, .load false 1 (.tmp 107), some (104, false), []⟩,
    ⟨some 109, .bin .neq (.tmp 106) (.tmp 108), some (104, false), []⟩,
    ⟨some 110, .pick (.tmp 104) (.const (.bool true)) (.tmp 109), none, []⟩])
  (.cond (.tmp 110)
  (.seq (.region [
    ⟨some 2, .move (.const (.bool false)), none, []⟩])
  .ret)
  .skip))
  (.seq (.region [
    ⟨some 111, .move (.tmp 8), none, []⟩,
    ⟨some 12, .move (.tmp 111), none, []⟩])
  (.seq (.seq (.region [
    ⟨some 112, .move (.tmp 6), none, []⟩,
    ⟨some 113, .move (.tmp 8), none, []⟩,
    ⟨some 114, .bin .lss (.tmp 112) (.tmp 113), none, []⟩])
  (.cond (.tmp 114)
  (.region [
    ⟨some 115, .move (.tmp 12), none, []⟩,
    ⟨some 116, .bin .sub (.tmp 115) (.const (.int .i64 1)), none, []⟩,
    ⟨some 12, .move (.tmp 116), none, []⟩])
  .skip))
  (.seq (.region [
    ⟨some 117, .fieldAddr 3 (.tmp 10), none, []⟩,
    ⟨some 118, .load false 1 (.tmp 117), none, []⟩,
    ⟨some 119, .move (.tmp 12), none, []⟩,
    ⟨some 120, .indexAddr 7 (.tmp 118) (.tmp 119), none, []⟩,
    ⟨some 121, .load true 7 (.tmp 120), none, []⟩,
    ⟨some 13, .new 224 7 (.const (.agg [.int .i64 0, .int .i64 0, .int .i64 0, .str [], .str [], .int .i64 0, .int .i64 0])), none, []⟩,
    ⟨none, .store true 7 (.tmp 13) (.tmp 121), none, []⟩])
  (.seq (.region [
    ⟨some 122, .fieldAddr 0 (.tmp 13), none, []⟩,
    ⟨some 123, .load false 1 (.tmp 122), none, []⟩,
    ⟨some 124, .move (.tmp 8), none, []⟩,
    ⟨some 125, .bin .neq (.tmp 123) (.tmp 124), none, []⟩,
    ⟨some 126, .move (.tmp 125), none, []⟩,
    ⟨some 127, .fieldAddr 1 (.tmp 13), some (126, false), []⟩,
    ⟨some 128, .load true 2 (.tmp 127), some (126, false), []⟩,
    ⟨some 129, .fieldAddr 1 (.tmp 9), some (126, false), []⟩,
    ⟨some 130, .load true 2 (.tmp 129), some (126, false), []⟩,
    ⟨some 131, .eqA true [1, 1] (.tmp 128) (.tmp 130), some (126, false), []⟩,
    ⟨some 132, .pick (.tmp 126) (.const (.bool true)) (.tmp 131), none, []⟩,
    ⟨some 133, .move (.tmp 132), none, []⟩,
    ⟨some 134, .fieldAddr 5 (.tmp 13), some (133, false), []⟩,
    ⟨some 135, .load false 1 (.tmp 134), some (133, false), []⟩,
    ⟨some 136, .fieldAddr 5 (.tmp 7), some (133, false), []⟩,
    ⟨some 137, .load false 1 (.tmp 136), some (133, false), []⟩,
    ⟨some 138, .fieldAddr 5 (.tmp 9), some (133, false), []⟩,
    ⟨some 139, .load false 1 (.tmp 138), some (133, false), []⟩,
    ⟨some 140, .bin .add (.tmp 137) (.tmp 139), some (133, false), []⟩,
    ⟨some 141, .min [(.const (.int .i64 255)), (.tmp 140)], some (133, false), []⟩,
    ⟨some 142, .bin .neq (.tmp 135) (.tmp 141), some (133, false), []⟩,
    ⟨some 143, .pick (.tmp 133) (.const (.bool true)) (.tmp 142), none, []⟩,
    ⟨some 144, .move (.tmp 143), none, []⟩,
    ⟨some 145, .fieldAddr 4 (.tmp 13), some (144, false), []⟩,
    ⟨some 146, .load false 1 (.tmp 145), some (144, false), []⟩,
    ⟨some 147, .fieldAddr 4 (.tmp 9), some (144, false), []⟩,
    ⟨some 148, .load false 1 (.tmp 147), some (144, false), []⟩,
    ⟨some 149, .bin .neq (.tmp 146) (.tmp 148), some (144, false), []⟩,
    ⟨some 150, .move (.tmp 149), some (144, false), []⟩,
    ⟨some 151, .fieldAddr 4 (.tmp 9), some (150, true), []⟩,
    ⟨some 152, .load false 1 (.tmp 151), some (150, true), []⟩,
    ⟨some 153, .bin .neq (.tmp 152) (.const (.str [])), some (150, true), []⟩,
    ⟨some 154, .move (.tmp 153), some (150, true), []⟩,
    ⟨some 155, .fieldAddr 4 (.tmp 13), some (154, false), []⟩,
    ⟨some 156, .load false 1 (.tmp 155), some (154, false), []⟩,
    ⟨some 157, .fieldAddr 4 (.tmp 7), some (154, false), []⟩,
    ⟨some 158, .load false 1 (.tmp 157), some (154, false), []⟩,
    ⟨some 159, .bin .neq (.tmp 156) (.tmp 158), some (154, false), []⟩,
    ⟨some 160, .pick (.tmp 154) (.const (.bool true)) (.tmp 159), some (150, true), []⟩,
    ⟨some 161, .pick (.tmp 150) (.tmp 160) (.const (.bool false)), some (144, false), []⟩,
    ⟨some 162, .pick (.tmp 144) (.const (.bool true)) (.tmp 161), none, []⟩,
    ⟨some 163, .move (.tmp 162), none, []⟩,
    ⟨some 164, .fieldAddr 4 (.tmp 13), some (163, false), []⟩,
    ⟨some 165, .load false 1 (.tmp 164), some (163, false), []⟩,
    ⟨some 166, .bin .eql (.tmp 165) (.const (.str [])), some (163, false), []⟩,
    ⟨some 167, .move (.tmp 166), some (163, false), []⟩,
    ⟨some 168, .fieldAddr 4 (.tmp 7), some (167, true), []⟩,
    ⟨some 169, .load false 1 (.tmp 168), some (167, true), []⟩,
    ⟨some 170, .bin .neq (.tmp 169) (.const (.str [])), some (167, true), []⟩,
    ⟨some 171, .pick (.tmp 167) (.tmp 170) (.const (.bool false)), some (163, false), []⟩,
    ⟨some 172, .pick (.tmp 163) (.const (.bool true)) (.tmp 171), none, []⟩])
  (.cond (.tmp 172)
  (.seq (.region [
    ⟨some 2, .move (.const (.bool false)), none, []⟩])
  .ret)
  .skip))))))))))
  (.region [
    ⟨some 173, .bin .add (.tmp 63) (.const (.int .i64 1)), none, []⟩,
    ⟨some 63, .move (.tmp 173), none, []⟩]))))
abbrev f3_l2 : ACode :=
  (.seq (.region [
    ⟨some 56, .bin .lss (.tmp 55) (.tmp 54), none, []⟩])
  (.seq (.cond (.tmp 56)
  .skip
  (.exit 2))
  (.seq (.block 3 (.seq (.region [
    ⟨some 57, .move (.tmp 55), none, []⟩,
    ⟨some 58, .indexAddr 7 (.tmp 53) (.tmp 55), none, []⟩,
    ⟨some 59, .load true 7 (.tmp 58), none, []⟩,
    ⟨some 7, .new 128 7 (.const (.agg [.int .i64 0, .int .i64 0, .int .i64 0, .str [], .str [], .int .i64 0, .int .i64 0])), none, []⟩,
    ⟨some 6, .move (.tmp 57), none, []⟩,
    ⟨none, .store true 7 (.tmp 7) (.tmp 59), none, []⟩])
  (.seq (.region [
    ⟨some 60, .fieldAddr 3 (.tmp 4), none, []⟩,
    ⟨some 61, .load false 1 (.tmp 60), none, []⟩,
    ⟨some 62, .len (.tmp 61), none, []⟩,
    ⟨some 63, .move (.const (.int .i64 0)), none, []⟩])
  (.block 4 (.loop f3_l1)))))
  (.region [
    ⟨some 174, .bin .add (.tmp 55) (.const (.int .i64 1)), none, []⟩,
    ⟨some 55, .move (.tmp 174), none, []⟩]))))
def f3_b : ACode :=
  (.seq (.region [
    ⟨some 2, .move (.const (.bool false)), none, []⟩])
  (.seq (.region [
    ⟨some 14, .call 240 false (.const (.fn 5 [])) [], none, []⟩,
    ⟨some 3, .move (.tmp 14), none, []⟩])
  (.seq (.region [
    ⟨some 15, .move (.tmp 0), none, []⟩,
    ⟨some 16, .call 272 true (.const (.fn 6 [])) [(.tmp 15)], none, []⟩,
    ⟨some 4, .new 80 4 (.const (.agg [.nils, .nils, .nils, .nils])), none, []⟩,
    ⟨none, .store true 4 (.tmp 4) (.tmp 16), none, []⟩])
  (.seq (.seq (.region [
    ⟨some 17, .fieldAddr 3 (.tmp 4), none, []⟩,
    ⟨some 18, .load false 1 (.tmp 17), none, []⟩,
    ⟨some 19, .len (.tmp 18), none, []⟩,
    ⟨some 20, .move (.const (.int .i64 0)), none, []⟩])
  (.block 0 (.loop f3_l0)))
  (.seq (.seq (.region [
    ⟨some 52, .fieldAddr 3 (.tmp 4), none, []⟩,
    ⟨some 53, .load false 1 (.tmp 52), none, []⟩,
    ⟨some 54, .len (.tmp 53), none, []⟩,
    ⟨some 55, .move (.const (.int .i64 0)), none, []⟩])
  (.block 2 (.loop f3_l2)))
  (.seq (.region [
    ⟨some 175, .move (.tmp 3), none, []⟩,
    ⟨some 2, .move (.tmp 175), none, []⟩])
  .ret))))))
def f3 : AFunc := ⟨1, 176, [], [.tmp 2], f3_b⟩

/-! 4: hachure/hachurelaw15.GatherNearest -/
abbrev f4_l0 : ACode :=
  (.seq (.region [
    ⟨some 26, .bin .lss (.tmp 25) (.tmp 24), none, []⟩])
  (.seq (.cond (.tmp 26)
  .skip
  (.exit 0))
  (.seq (.block 1 (.seq (.region [
    ⟨some 27, .move (.tmp 25), none, []⟩,
    ⟨some 7, .move (.tmp 27), none, []⟩])
  (.seq (.region [
    ⟨some 28, .fieldAddr 3 (.tmp 6), none, []⟩,
    ⟨some 29, .load false 1 (.tmp 28), none, []⟩,
    ⟨some 30, .move (.tmp 7), none, []⟩,
    ⟨some 31, .indexAddr 7 (.tmp 29) (.tmp 30), none, []⟩,
    ⟨some 8, .move (.tmp 31), none, []⟩])
  (.seq (.region [
    ⟨some 32, .move (.tmp 8), none, []⟩,
    ⟨some 33, .move (.tmp 8), none, []⟩,
    ⟨some 34, .move (.tmp 7), none, []⟩,
    ⟨some 35, .move (.tmp 8), none, []⟩,
    ⟨some 36, .nilCheck (.tmp 35), none, []⟩,
    ⟨some 37, .fieldAddr 6 (.tmp 36), none, []⟩,
    ⟨some 38, .load false 1 (.tmp 37), none, []⟩,
    ⟨some 39, .bin .and (.tmp 38) (.const (.int .i64 1)), none, []⟩,
    ⟨some 40, .bin .add (.const (.int .i64 1)) (.tmp 39), none, []⟩,
    ⟨some 41, .nilCheck (.tmp 32), none, []⟩,
    ⟨some 42, .fieldAddr 0 (.tmp 41), none, []⟩,
    ⟨none, .store false 1 (.tmp 42) (.tmp 34), none, []⟩,
    ⟨some 43, .nilCheck (.tmp 33), none, []⟩,
    ⟨some 44, .fieldAddr 6 (.tmp 43), none, []⟩,
    ⟨none, .store false 1 (.tmp 44) (.tmp 40), none, []⟩])
  (.drawn [
    ⟨some 45, .move (.tmp 8), none, []⟩,
    ⟨some 46, .move (.tmp 8), none, []⟩,
    ⟨some 47, .nilCheck (.tmp 46), none, [1]⟩,
    ⟨some 48, .fieldAddr 1 (.tmp 47), none, [2]⟩,
    ⟨some 49, .fieldAddr 0 (.tmp 48), none, [3]⟩,
    ⟨some 50, .load false 1 (.tmp 49), none, [4]⟩,
    ⟨some 51, .bin .rem (.tmp 50) (.const (.int .i64 500)), none, [5]⟩,
    ⟨some 52, .move (.tmp 8), none, []⟩,
    ⟨some 53, .nilCheck (.tmp 52), none, [7]⟩,
    ⟨some 54, .fieldAddr 1 (.tmp 53), none, [8]⟩,
    ⟨some 55, .fieldAddr 1 (.tmp 54), none, [9]⟩,
    ⟨some 56, .load false 1 (.tmp 55), none, [10]⟩,
    ⟨some 57, .bin .rem (.tmp 56) (.const (.int .i64 500)), none, [11]⟩,
    ⟨some 58, .build [.int .i64 0, .int .i64 0] [(0, 1, (.tmp 51)), (1, 1, (.tmp 57))], none, [6, 12]⟩,
    ⟨some 59, .nilCheck (.tmp 45), none, [0, 0, 1, 2, 3, 4, 5, 6, 7, 8, 9, 10, 11, 12, 13]⟩,
    ⟨some 60, .fieldAddr 1 (.tmp 59), none, [14, 0, 1, 2, 3, 4, 5, 6, 7, 8, 9, 10, 11, 12, 13]⟩,
    ⟨none, .store true 2 (.tmp 60) (.tmp 58), none, [15, 13, 0, 1, 2, 3, 4, 5, 6, 7, 8, 9, 10, 11, 12, 13]⟩])))))
  (.region [
    ⟨some 61, .bin .add (.tmp 25) (.const (.int .i64 1)), none, []⟩,
    ⟨some 25, .move (.tmp 61), none, []⟩]))))
abbrev f4_l1 : ACode :=
  (.seq (.region [
    ⟨some 114, .bin .lss (.tmp 113) (.tmp 112), none, []⟩])
  (.seq (.cond (.tmp 114)
  .skip
  (.exit 6))
  (.seq (.block 7 (.seq (.region [
    ⟨some 115, .move (.tmp 113), none, []⟩,
    ⟨some 116, .indexAddr 7 (.tmp 111) (.tmp 113), none, []⟩,
    ⟨some 117, .load true 7 (.tmp 116), none, []⟩,
    ⟨some 18, .new 304 7 (.const (.agg [.int .i64 0, .int .i64 0, .int .i64 0, .str [], .str [], .int .i64 0, .int .i64 0])), none, []⟩,
    ⟨some 17, .move (.tmp 115), none, []⟩,
    ⟨none, .store true 7 (.tmp 18) (.tmp 117), none, []⟩])
  (.seq (.drawn [
    ⟨some 118, .load true 4 (.tmp 6), none, []⟩,
    ⟨some 119, .move (.tmp 14), none, []⟩,
    ⟨some 120, .move (.tmp 17), none, []⟩,
    ⟨some 121, .call 1952 false (.const (.fn 8 [])) [(.tmp 118), (.tmp 119), (.tmp 120)], none, [0, 1, 2]⟩,
    ⟨some 122, .bin .eql (.tmp 121) (.const (.int .i64 0)), none, [3]⟩,
    ⟨some 123, .move (.tmp 122), none, [4, 3]⟩,
    ⟨some 124, .move (.tmp 16), some (123, true), [5]⟩,
    ⟨some 125, .bin .lss (.tmp 124) (.const (.int .i64 0)), some (123, true), [6, 5]⟩,
    ⟨some 126, .move (.tmp 125), some (123, true), [7, 5, 5]⟩,
    ⟨some 127, .fieldAddr 1 (.tmp 15), some (126, false), [8]⟩,
    ⟨some 128, .load true 2 (.tmp 127), some (126, false), [9, 8]⟩,
    ⟨some 129, .fieldAddr 1 (.tmp 18), some (126, false), [8]⟩,
    ⟨some 130, .load true 2 (.tmp 129), some (126, false), [11, 8]⟩,
    ⟨some 131, .call 2112 false (.const (.fn 11 [])) [(.tmp 128), (.tmp 130)], some (126, false), [10, 12, 8, 8]⟩,
    ⟨some 132, .fieldAddr 1 (.tmp 15), some (126, false), [8]⟩,
    ⟨some 133, .load true 2 (.tmp 132), some (126, false), [14, 8]⟩,
    ⟨some 134, .fieldAddr 3 (.tmp 6), some (126, false), [8]⟩,
    ⟨some 135, .load false 1 (.tmp 134), some (126, false), [16, 8]⟩,
    ⟨some 136, .move (.tmp 16), some (126, false), [8]⟩,
    ⟨some 137, .indexAddr 7 (.tmp 135) (.tmp 136), some (126, false), [17, 18, 8]⟩,
    ⟨some 138, .fieldAddr 1 (.tmp 137), some (126, false), [19, 8]⟩,
    ⟨some 139, .load true 2 (.tmp 138), some (126, false), [20, 8]⟩,
    ⟨some 140, .call 2256 false (.const (.fn 11 [])) [(.tmp 133), (.tmp 139)], some (126, false), [15, 21, 13, 8]⟩,
    ⟨some 141, .bin .lss (.tmp 131) (.tmp 140), some (126, false), [13, 22, 8]⟩,
    ⟨some 142, .pick (.tmp 126) (.const (.bool true)) (.tmp 141), some (123, true), [8, 23, 5]⟩,
    ⟨some 143, .pick (.tmp 123) (.tmp 142) (.const (.bool false)), none, [5, 24]⟩])
  (.cond (.tmp 143)
  (.region [
    ⟨some 144, .move (.tmp 17), none, []⟩,
    ⟨some 16, .move (.tmp 144), none, []⟩])
  .skip))))
  (.region [
    ⟨some 145, .bin .add (.tmp 113) (.const (.int .i64 1)), none, []⟩,
    ⟨some 113, .move (.tmp 145), none, []⟩]))))
abbrev f4_l2 : ACode :=
  (.seq (.region [
    ⟨some 102, .bin .lss (.tmp 101) (.tmp 100), none, []⟩])
  (.seq (.cond (.tmp 102)
  .skip
  (.exit 4))
  (.seq (.block 5 (.seq (.region [
    ⟨some 103, .move (.tmp 101), none, []⟩,
    ⟨some 104, .indexAddr 7 (.tmp 99) (.tmp 101), none, []⟩,
    ⟨some 105, .load true 7 (.tmp 104), none, []⟩,
    ⟨some 15, .new 256 7 (.const (.agg [.int .i64 0, .int .i64 0, .int .i64 0, .str [], .str [], .int .i64 0, .int .i64 0])), none, []⟩,
    ⟨some 14, .move (.tmp 103), none, []⟩,
    ⟨none, .store true 7 (.tmp 15) (.tmp 105), none, []⟩])
  (.seq (.seq (.region [
    ⟨some 106, .fieldAddr 6 (.tmp 15), none, []⟩,
    ⟨some 107, .load false 1 (.tmp 106), none, []⟩,
    ⟨some 108, .move (.tmp 11), none, []⟩,
    ⟨some 109, .bin .neq (.tmp 107) (.tmp 108), none, []⟩])
  (.cond (.tmp 109)
  (.exit 5)
  .skip))
  (.seq (.region [
    ⟨some 16, .move (.const (.int .i64 (-1))), none, []⟩])
  (.seq (.seq (.region [
    ⟨some 110, .fieldAddr 3 (.tmp 6), none, []⟩,
    ⟨some 111, .load false 1 (.tmp 110), none, []⟩,
    ⟨some 112, .len (.tmp 111), none, []⟩,
    ⟨some 113, .move (.const (.int .i64 0)), none, []⟩])
  (.block 6 (.loop f4_l1)))
  (.seq (.seq (.region [
    ⟨some 146, .move (.tmp 16), none, []⟩,
    ⟨some 147, .bin .lss (.tmp 146) (.const (.int .i64 0)), none, []⟩])
  (.cond (.tmp 147)
  (.exit 5)
  .skip))
  (.seq (.seq (.drawn [
    ⟨some 148, .move (.tmp 13), none, []⟩,
    ⟨some 149, .move (.tmp 12), none, []⟩,
    ⟨some 150, .len (.tmp 149), none, [1]⟩,
    ⟨some 151, .bin .geq (.tmp 148) (.tmp 150), none, [0, 2]⟩,
    ⟨some 152, .move (.tmp 151), none, [3]⟩,
    ⟨some 153, .move (.tmp 12), some (152, false), [4]⟩,
    ⟨some 154, .move (.tmp 13), some (152, false), [4]⟩,
    ⟨some 155, .indexAddr 5 (.tmp 153) (.tmp 154), some (152, false), [5, 6, 4]⟩,
    ⟨some 156, .load true 5 (.tmp 155), some (152, false), [7, 4]⟩,
    ⟨some 157, .load true 4 (.tmp 6), some (152, false), [4]⟩,
    ⟨some 158, .move (.tmp 14), some (152, false), [4]⟩,
    ⟨some 159, .move (.tmp 16), some (152, false), [4]⟩,
    ⟨some 160, .call 2576 false (.const (.fn 12 [])) [(.tmp 157), (.tmp 158), (.tmp 159)], some (152, false), [9, 10, 11, 4, 4]⟩,
    ⟨some 161, .max [(.const (.int .i64 1)), (.tmp 160)], some (152, false), [12, 4]⟩,
    ⟨some 162, .move (.tmp 14), some (152, false), [4]⟩,
    ⟨some 163, .move (.tmp 16), some (152, false), [4]⟩,
    ⟨some 164, .build [.int .i64 0, .int .i64 0, .int .i64 0, .int .i64 0, .int .i64 0] [(0, 1, (.const (.int .i64 4))), (1, 1, (.tmp 161)), (2, 1, (.tmp 162)), (3, 1, (.tmp 163))], some (152, false), [13, 14, 15, 4]⟩,
    ⟨some 165, .eqA true [1, 1, 1, 1, 1] (.tmp 156) (.tmp 164), some (152, false), [8, 16, 4]⟩,
    ⟨some 166, .pick (.tmp 152) (.const (.bool true)) (.tmp 165), none, [4, 17]⟩])
  (.cond (.tmp 166)
  (.seq (.region [
    ⟨some 4, .move (.const (.bool false)), none, []⟩])
  .ret)
  .skip))
  (.region [
    ⟨some 167, .move (.tmp 13), none, []⟩,
    ⟨some 168, .bin .add (.tmp 167) (.const (.int .i64 1)), none, []⟩,
    ⟨some 13, .move (.tmp 168), none, []⟩]))))))))
  (.region [
    ⟨some 169, .bin .add (.tmp 101) (.const (.int .i64 1)), none, []⟩,
    ⟨some 101, .move (.tmp 169), none, []⟩]))))
abbrev f4_l3 : ACode :=
  (.seq (.seq (.region [
    ⟨some 85, .move (.tmp 11), none, []⟩,
    ⟨some 86, .bin .leq (.tmp 85) (.const (.int .i64 2)), none, []⟩])
  (.cond (.tmp 86)
  .skip
  (.exit 2)))
  (.seq (.block 3 (.seq (.region [
    ⟨some 89, .load true 4 (.tmp 6), none, []⟩,
    ⟨some 90, .move (.tmp 11), none, []⟩,
    ⟨some 91, .call 1472 false (.const (.fn 9 [])) [(.tmp 89), (.tmp 90)], none, []⟩,
    ⟨some 12, .move (.tmp 91), none, []⟩])
  (.seq (.seq (.region [
    ⟨some 92, .load true 4 (.tmp 10), none, []⟩,
    ⟨some 93, .move (.tmp 11), none, []⟩,
    ⟨some 94, .call 1520 false (.const (.fn 9 [])) [(.tmp 92), (.tmp 93)], none, []⟩,
    ⟨some 95, .move (.tmp 12), none, []⟩,
    ⟨some 96, .call 1552 false (.const (.fn 10 [])) [(.tmp 94), (.tmp 95)], none, []⟩,
    ⟨some 97, .un .not (.tmp 96), none, []⟩])
  (.cond (.tmp 97)
  (.seq (.region [
    ⟨some 4, .move (.const (.bool false)), none, []⟩])
  .ret)
  .skip))
  (.seq (.region [
    ⟨some 13, .move (.const (.int .i64 0)), none, []⟩])
  (.seq (.seq (.region [
    ⟨some 98, .fieldAddr 3 (.tmp 6), none, []⟩,
    ⟨some 99, .load false 1 (.tmp 98), none, []⟩,
    ⟨some 100, .len (.tmp 99), none, []⟩,
    ⟨some 101, .move (.const (.int .i64 0)), none, []⟩])
  (.block 4 (.loop f4_l2)))
  (.seq (.region [
    ⟨some 170, .move (.tmp 13), none, []⟩,
    ⟨some 171, .move (.tmp 12), none, []⟩,
    ⟨some 172, .len (.tmp 171), none, []⟩,
    ⟨some 173, .bin .neq (.tmp 170) (.tmp 172), none, []⟩])
  (.cond (.tmp 173)
  (.seq (.region [
    ⟨some 4, .move (.const (.bool false)), none, []⟩])
  .ret)
  .skip)))))))
  (.region [
    ⟨some 87, .move (.tmp 11), none, []⟩,
    ⟨some 88, .bin .add (.tmp 87) (.const (.int .i64 1)), none, []⟩,
    ⟨some 11, .move (.tmp 88), none, []⟩])))
def f4_b : ACode :=
  (.seq (.region [
    ⟨some 4, .move (.const (.bool false)), none, []⟩])
  (.seq (.region [
    ⟨some 19, .call 320 false (.const (.fn 5 [])) [], none, []⟩,
    ⟨some 5, .move (.tmp 19), none, []⟩])
  (.seq (.region [
    ⟨some 20, .move (.tmp 0), none, []⟩,
    ⟨some 21, .call 352 true (.const (.fn 6 [])) [(.tmp 20)], none, []⟩,
    ⟨some 6, .new 112 4 (.const (.agg [.nils, .nils, .nils, .nils])), none, []⟩,
    ⟨none, .store true 4 (.tmp 6) (.tmp 21), none, []⟩])
  (.seq (.seq (.region [
    ⟨some 22, .fieldAddr 3 (.tmp 6), none, []⟩,
    ⟨some 23, .load false 1 (.tmp 22), none, []⟩,
    ⟨some 24, .len (.tmp 23), none, []⟩,
    ⟨some 25, .move (.const (.int .i64 0)), none, []⟩])
  (.block 0 (.loop f4_l0)))
  (.seq (.seq (.region [
    ⟨some 62, .fieldAddr 3 (.tmp 6), none, []⟩,
    ⟨some 63, .load false 1 (.tmp 62), none, []⟩,
    ⟨some 64, .len (.tmp 63), none, []⟩,
    ⟨some 65, .bin .eql (.tmp 64) (.const (.int .i64 0)), none, []⟩])
  (.cond (.tmp 65)
  (.seq (.region [
    ⟨some 66, .move (.tmp 5), none, []⟩,
    ⟨some 4, .move (.tmp 66), none, []⟩])
  .ret)
  .skip))
  (.seq (.region [
    ⟨some 67, .move (.tmp 1), none, []⟩,
    ⟨some 68, .convInt .i64 (.tmp 67), none, []⟩,
    ⟨some 69, .fieldAddr 3 (.tmp 6), none, []⟩,
    ⟨some 70, .load false 1 (.tmp 69), none, []⟩,
    ⟨some 71, .len (.tmp 70), none, []⟩,
    ⟨some 72, .bin .rem (.tmp 68) (.tmp 71), none, []⟩,
    ⟨some 9, .move (.tmp 72), none, []⟩])
  (.seq (.drawn [
    ⟨some 73, .buildSlice 1184 7 (.agg [.int .i64 0, .int .i64 0, .int .i64 0, .str [], .str [], .int .i64 0, .int .i64 0]) 0 [], none, []⟩,
    ⟨some 74, .fieldAddr 3 (.tmp 6), none, []⟩,
    ⟨some 75, .load false 1 (.tmp 74), none, [1]⟩,
    ⟨some 76, .move (.tmp 9), none, []⟩,
    ⟨some 77, .slice 7 (.tmp 75) (some (.tmp 76)) none none, none, [2, 3]⟩,
    ⟨some 78, .append 1264 7 1927910799188 (.tmp 73) (.tmp 77), none, [0, 4]⟩,
    ⟨some 79, .fieldAddr 3 (.tmp 6), none, []⟩,
    ⟨some 80, .load false 1 (.tmp 79), none, [6]⟩,
    ⟨some 81, .move (.tmp 9), none, []⟩,
    ⟨some 82, .slice 7 (.tmp 80) none (some (.tmp 81)) none, none, [7, 8]⟩,
    ⟨some 83, .append 1344 7 1927910799188 (.tmp 78) (.tmp 82), none, [5, 9, 5]⟩,
    ⟨some 84, .build [.nils, .nils, .nils, .nils] [(3, 1, (.tmp 83))], none, [10]⟩,
    ⟨some 10, .new 176 4 (.const (.agg [.nils, .nils, .nils, .nils])), none, []⟩,
    ⟨none, .store true 4 (.tmp 10) (.tmp 84), none, [12, 11, 10, 0, 1, 2, 3, 4, 5, 6, 7, 8, 9, 10, 11, 12]⟩])
  (.seq (.seq (.region [
    ⟨some 11, .move (.const (.int .i64 1)), none, []⟩])
  (.block 2 (.loop f4_l3)))
  (.seq (.region [
    ⟨some 174, .move (.tmp 5), none, []⟩,
    ⟨some 4, .move (.tmp 174), none, []⟩])
  .ret)))))))))
def f4 : AFunc := ⟨2, 175, [], [.tmp 4], f4_b⟩

/-! 5: hachure/hachurelaw15.sanity -/
def f5_b : ACode :=
  (.seq (.region [
    ⟨some 0, .move (.const (.bool false)), none, []⟩])
  (.seq (.region [
    ⟨some 7, .call 128 false (.const (.fn 13 [])) [], none, []⟩,
    ⟨some 1, .new 32 4 (.const (.agg [.nils, .nils, .nils, .nils])), none, []⟩,
    ⟨none, .store true 4 (.tmp 1) (.tmp 7), none, []⟩])
  (.seq (.region [
    ⟨some 8, .load true 4 (.tmp 1), none, []⟩,
    ⟨some 9, .call 160 false (.const (.fn 8 [])) [(.tmp 8), (.const (.int .i64 2)), (.const (.int .i64 1))], none, []⟩,
    ⟨some 10, .bin .eql (.tmp 9) (.const (.int .i64 0)), none, []⟩,
    ⟨some 11, .move (.tmp 10), none, []⟩,
    ⟨some 12, .load true 4 (.tmp 1), some (11, true), []⟩,
    ⟨some 13, .call 224 false (.const (.fn 8 [])) [(.tmp 12), (.const (.int .i64 1)), (.const (.int .i64 2))], some (11, true), []⟩,
    ⟨some 14, .bin .eql (.tmp 13) (.const (.int .i64 1)), some (11, true), []⟩,
    ⟨some 15, .pick (.tmp 11) (.tmp 14) (.const (.bool false)), none, []⟩,
    ⟨some 16, .move (.tmp 15), none, []⟩,
    ⟨some 17, .load true 4 (.tmp 1), some (16, true), []⟩,
    ⟨some 18, .call 304 false (.const (.fn 8 [])) [(.tmp 17), (.const (.int .i64 3)), (.const (.int .i64 1))], some (16, true), []⟩,
    ⟨some 19, .bin .eql (.tmp 18) (.const (.int .i64 0)), some (16, true), []⟩,
    ⟨some 20, .pick (.tmp 16) (.tmp 19) (.const (.bool false)), none, []⟩,
    ⟨some 21, .move (.tmp 20), none, []⟩,
    ⟨some 22, .load true 4 (.tmp 1), some (21, true), []⟩,
    ⟨some 23, .call 384 false (.const (.fn 8 [])) [(.tmp 22), (.const (.int .i64 4)), (.const (.int .i64 3))], some (21, true), []⟩,
    ⟨some 24, .bin .eql (.tmp 23) (.const (.int .i64 24)), some (21, true), []⟩,
    ⟨some 25, .pick (.tmp 21) (.tmp 24) (.const (.bool false)), none, []⟩,
    ⟨some 26, .move (.tmp 25), none, []⟩,
    ⟨some 27, .load true 4 (.tmp 1), some (26, true), []⟩,
    ⟨some 28, .call 464 false (.const (.fn 8 [])) [(.tmp 27), (.const (.int .i64 5)), (.const (.int .i64 1))], some (26, true), []⟩,
    ⟨some 29, .bin .eql (.tmp 28) (.const (.int .i64 1)), some (26, true), []⟩,
    ⟨some 30, .pick (.tmp 26) (.tmp 29) (.const (.bool false)), none, []⟩,
    ⟨some 31, .move (.tmp 30), none, []⟩,
    ⟨some 32, .load true 4 (.tmp 1), some (31, true), []⟩,
    ⟨some 33, .call 544 false (.const (.fn 8 [])) [(.tmp 32), (.const (.int .i64 3)), (.const (.int .i64 9))], some (31, true), []⟩,
    ⟨some 34, .bin .eql (.tmp 33) (.const (.int .i64 5)), some (31, true), []⟩,
    ⟨some 35, .pick (.tmp 31) (.tmp 34) (.const (.bool false)), none, []⟩,
    ⟨some 2, .move (.tmp 35), none, []⟩])
  (.seq (.region [
    ⟨some 36, .load true 4 (.tmp 1), none, []⟩,
    ⟨some 37, .call 608 false (.const (.fn 12 [])) [(.tmp 36), (.const (.int .i64 2)), (.const (.int .i64 1))], none, []⟩,
    ⟨some 38, .bin .eql (.tmp 37) (.const (.int .i64 12)), none, []⟩,
    ⟨some 39, .move (.tmp 38), none, []⟩,
    ⟨some 40, .load true 4 (.tmp 1), some (39, true), []⟩,
    ⟨some 41, .call 672 false (.const (.fn 12 [])) [(.tmp 40), (.const (.int .i64 3)), (.const (.int .i64 1))], some (39, true), []⟩,
    ⟨some 42, .bin .eql (.tmp 41) (.const (.int .i64 2)), some (39, true), []⟩,
    ⟨some 43, .pick (.tmp 39) (.tmp 42) (.const (.bool false)), none, []⟩,
    ⟨some 44, .move (.tmp 43), none, []⟩,
    ⟨some 45, .load true 4 (.tmp 1), some (44, true), []⟩,
    ⟨some 46, .call 752 false (.const (.fn 12 [])) [(.tmp 45), (.const (.int .i64 5)), (.const (.int .i64 1))], some (44, true), []⟩,
    ⟨some 47, .bin .eql (.tmp 46) (.const (.int .i64 0)), some (44, true), []⟩,
    ⟨some 48, .pick (.tmp 44) (.tmp 47) (.const (.bool false)), none, []⟩,
    ⟨some 3, .move (.tmp 48), none, []⟩])
  (.seq (.region [
    ⟨some 50, .load true 4 (.tmp 1), none, []⟩,
    ⟨some 51, .call 832 false (.const (.fn 7 [])) [(.tmp 50), (.const (.int .i64 3)), (.const (.int .i64 1))], none, []⟩,
    ⟨some 49, .move (.tmp 51), none, []⟩,
    ⟨some 52, .extract (.tmp 49) 0, none, []⟩,
    ⟨some 53, .extract (.tmp 49) 1, none, []⟩,
    ⟨some 4, .new 80 4 (.const (.agg [.nils, .nils, .nils, .nils])), none, []⟩,
    ⟨none, .store true 4 (.tmp 4) (.tmp 52), none, []⟩,
    ⟨some 5, .move (.tmp 53), none, []⟩])
  (.seq (.seq (.drawn [
    ⟨some 54, .move (.tmp 5), none, []⟩,
    ⟨some 55, .bin .neq (.tmp 54) (.const (.int .i64 0)), none, [0]⟩,
    ⟨some 56, .move (.tmp 55), none, [1]⟩,
    ⟨some 57, .fieldAddr 3 (.tmp 4), some (56, false), [2]⟩,
    ⟨some 58, .load false 1 (.tmp 57), some (56, false), [3, 2]⟩,
    ⟨some 59, .len (.tmp 58), some (56, false), [4, 2]⟩,
    ⟨some 60, .bin .neq (.tmp 59) (.const (.int .i64 4)), some (56, false), [5, 2]⟩,
    ⟨some 61, .pick (.tmp 56) (.const (.bool true)) (.tmp 60), none, [2, 6]⟩,
    ⟨some 62, .move (.tmp 61), none, [7, 2]⟩,
    ⟨some 63, .fieldAddr 3 (.tmp 4), some (62, false), [8]⟩,
    ⟨some 64, .load false 1 (.tmp 63), some (62, false), [9, 8]⟩,
    ⟨some 65, .indexAddr 7 (.tmp 64) (.const (.int .i64 0)), some (62, false), [10, 8]⟩,
    ⟨some 66, .load true 7 (.tmp 65), some (62, false), [11, 8]⟩,
    ⟨some 67, .call 1088 false (.const (.fn 14 [])) [(.const (.int .i64 1)), (.const (.str [116, 114, 101, 101])), (.const (.str [69, 108, 109])), (.const (.int .i64 5)), (.const (.int .i64 0)), (.const (.int .i64 0))], some (62, false), [8, 8]⟩,
    ⟨some 68, .eqA true [1, 1, 1, 2, 2, 1, 1] (.tmp 66) (.tmp 67), some (62, false), [12, 13, 8]⟩,
    ⟨some 69, .pick (.tmp 62) (.const (.bool true)) (.tmp 68), none, [8, 14]⟩])
  (.cond (.tmp 69)
  (.seq (.region [
    ⟨some 0, .move (.const (.bool false)), none, []⟩])
  .ret)
  .skip))
  (.seq (.region [
    ⟨some 70, .build [.int .i64 0, .int .i64 0, .int .i64 0, .int .i64 0, .int .i64 0] [(0, 1, (.const (.int .i64 4))), (1, 1, (.const (.int .i64 12))), (2, 1, (.const (.int .i64 2))), (3, 1, (.const (.int .i64 1)))], none, []⟩,
    ⟨some 71, .build [.int .i64 0, .int .i64 0, .int .i64 0, .int .i64 0, .int .i64 0] [(0, 1, (.const (.int .i64 4))), (1, 1, (.const (.int .i64 2))), (2, 1, (.const (.int .i64 3))), (3, 1, (.const (.int .i64 1)))], none, []⟩,
    ⟨some 72, .build [.int .i64 0, .int .i64 0, .int .i64 0, .int .i64 0, .int .i64 0] [(0, 1, (.const (.int .i64 4))), (1, 1, (.const (.int .i64 18))), (2, 1, (.const (.int .i64 4))), (3, 1, (.const (.int .i64 2)))], none, []⟩,
    ⟨some 73, .buildSlice 1184 5 (.agg [.int .i64 0, .int .i64 0, .int .i64 0, .int .i64 0, .int .i64 0]) 3 [(0, (.tmp 70)), (1, (.tmp 71)), (2, (.tmp 72))], none, []⟩,
    ⟨some 6, .move (.tmp 73), none, []⟩])
  (.seq (.region [
    ⟨some 74, .move (.tmp 2), none, []⟩,
    ⟨some 75, .move (.tmp 74), none, []⟩,
    ⟨some 76, .move (.tmp 3), some (75, true), []⟩,
    ⟨some 77, .pick (.tmp 75) (.tmp 76) (.const (.bool false)), none, []⟩,
    ⟨some 78, .move (.tmp 77), none, []⟩,
    ⟨some 79, .load true 4 (.tmp 1), some (78, true), []⟩,
    ⟨some 80, .call 1296 false (.const (.fn 9 [])) [(.tmp 79), (.const (.int .i64 1))], some (78, true), []⟩,
    ⟨some 81, .move (.tmp 6), some (78, true), []⟩,
    ⟨some 82, .call 1328 false (.const (.fn 10 [])) [(.tmp 80), (.tmp 81)], some (78, true), []⟩,
    ⟨some 83, .pick (.tmp 78) (.tmp 82) (.const (.bool false)), none, []⟩,
    ⟨some 0, .move (.tmp 83), none, []⟩])
  .ret))))))))
def f5 : AFunc := ⟨0, 84, [], [.tmp 0], f5_b⟩

/-! 6: hachure/hachurelaw15.cut -/
abbrev f6_l0 : ACode :=
  (.seq (.seq (.region [
    ⟨some 6, .move (.tmp 4), none, []⟩,
    ⟨some 7, .move (.tmp 0), none, []⟩,
    ⟨some 8, .len (.tmp 7), none, []⟩,
    ⟨some 9, .bin .lss (.tmp 6) (.tmp 8), none, []⟩,
    ⟨some 10, .move (.tmp 9), none, []⟩,
    ⟨some 11, .move (.tmp 4), some (10, true), []⟩,
    ⟨some 12, .bin .lss (.tmp 11) (.const (.int .i64 8)), some (10, true), []⟩,
    ⟨some 13, .pick (.tmp 10) (.tmp 12) (.const (.bool false)), none, []⟩])
  (.cond (.tmp 13)
  .skip
  (.exit 0)))
  (.seq (.block 1 (.seq (.region [
    ⟨some 16, .move (.tmp 0), none, []⟩,
    ⟨some 17, .move (.tmp 4), none, []⟩,
    ⟨some 18, .indexAddr 7 (.tmp 16) (.tmp 17), none, []⟩,
    ⟨some 19, .load true 7 (.tmp 18), none, []⟩,
    ⟨some 5, .new 96 7 (.const (.agg [.int .i64 0, .int .i64 0, .int .i64 0, .str [], .str [], .int .i64 0, .int .i64 0])), none, []⟩,
    ⟨none, .store true 7 (.tmp 5) (.tmp 19), none, []⟩])
  (.seq (.region [
    ⟨some 20, .fieldAddr 4 (.tmp 5), none, []⟩,
    ⟨some 21, .load false 1 (.tmp 20), none, []⟩,
    ⟨some 22, .fieldAddr 4 (.tmp 5), none, []⟩,
    ⟨some 23, .load false 1 (.tmp 22), none, []⟩,
    ⟨some 24, .lenStr (.tmp 23), none, []⟩,
    ⟨some 25, .min [(.tmp 24), (.const (.int .i64 30))], none, []⟩,
    ⟨some 26, .sliceStr (.tmp 21) none (some (.tmp 25)), none, []⟩,
    ⟨some 27, .fieldAddr 4 (.tmp 5), none, []⟩,
    ⟨none, .store false 1 (.tmp 27) (.tmp 26), none, []⟩])
  (.seq (.region [
    ⟨some 28, .buildSlice 464 1 (.str []) 2 [(0, (.const (.str [116, 114, 101, 101]))), (1, (.const (.str [119, 101, 108, 108])))], none, []⟩,
    ⟨some 29, .fieldAddr 3 (.tmp 5), none, []⟩,
    ⟨some 30, .load false 1 (.tmp 29), none, []⟩,
    ⟨some 31, .lenStr (.tmp 30), none, []⟩,
    ⟨some 32, .bin .rem (.tmp 31) (.const (.int .i64 2)), none, []⟩,
    ⟨some 33, .indexAddr 1 (.tmp 28) (.tmp 32), none, []⟩,
    ⟨some 34, .load false 1 (.tmp 33), none, []⟩,
    ⟨some 35, .fieldAddr 3 (.tmp 5), none, []⟩,
    ⟨none, .store false 1 (.tmp 35) (.tmp 34), none, []⟩])
  (.region [
    ⟨some 36, .fieldAddr 3 (.tmp 3), none, []⟩,
    ⟨some 37, .load false 1 (.tmp 36), none, []⟩,
    ⟨some 38, .load true 7 (.tmp 5), none, []⟩,
    ⟨some 39, .buildSlice 640 7 (.agg [.int .i64 0, .int .i64 0, .int .i64 0, .str [], .str [], .int .i64 0, .int .i64 0]) 1 [(0, (.tmp 38))], none, []⟩,
    ⟨some 40, .append 69 7 1927910799188 (.tmp 37) (.tmp 39), none, []⟩,
    ⟨some 41, .fieldAddr 3 (.tmp 3), none, []⟩,
    ⟨none, .store false 1 (.tmp 41) (.tmp 40), none, []⟩])))))
  (.region [
    ⟨some 14, .move (.tmp 4), none, []⟩,
    ⟨some 15, .bin .add (.tmp 14) (.const (.int .i64 1)), none, []⟩,
    ⟨some 4, .move (.tmp 15), none, []⟩])))
def f6_b : ACode :=
  (.seq (.region [
    ⟨some 2, .new 48 4 (.const (.agg [.nils, .nils, .nils, .nils])), none, []⟩])
  (.seq (.region [
    ⟨some 3, .new 64 4 (.const (.agg [.nils, .nils, .nils, .nils])), none, []⟩])
  (.seq (.seq (.region [
    ⟨some 4, .move (.const (.int .i64 0)), none, []⟩])
  (.block 0 (.loop f6_l0)))
  (.seq (.region [
    ⟨some 42, .load true 4 (.tmp 3), none, []⟩,
    ⟨none, .store true 4 (.tmp 2) (.tmp 42), none, []⟩])
  .ret))))
def f6 : AFunc := ⟨1, 43, [], [.cell 2 true 4], f6_b⟩

/-! 7: hachure/gather.Apply -/
def f7_b : ACode :=
  (.seq (.region [
    ⟨some 3, .new 64 4 (.tmp 0), none, []⟩,
    ⟨some 6, .new 112 4 (.const (.agg [.nils, .nils, .nils, .nils])), none, []⟩,
    ⟨some 7, .move (.const (.int .i64 0)), none, []⟩])
  (.seq (.seq (.region [
    ⟨some 14, .load true 4 (.tmp 3), none, []⟩,
    ⟨some 15, .move (.tmp 1), none, []⟩,
    ⟨some 16, .move (.tmp 2), none, []⟩,
    ⟨some 17, .call 288 false (.const (.fn 8 [])) [(.tmp 14), (.tmp 15), (.tmp 16)], none, []⟩,
    ⟨some 8, .move (.tmp 17), none, []⟩])
  (.seq (.region [
    ⟨some 18, .move (.tmp 8), none, []⟩,
    ⟨some 19, .bin .neq (.tmp 18) (.const (.int .i64 0)), none, []⟩])
  (.cond (.tmp 19)
  (.seq (.region [
    ⟨some 20, .build [.nils, .nils, .nils, .nils] [], none, []⟩,
    ⟨some 21, .move (.tmp 8), none, []⟩,
    ⟨none, .store true 4 (.tmp 6) (.tmp 20), none, []⟩,
    ⟨some 7, .move (.tmp 21), none, []⟩])
  .ret)
  .skip)))
  (.seq (.region [
    ⟨some 23, .load true 4 (.tmp 3), none, []⟩,
    ⟨some 24, .move (.tmp 1), none, []⟩,
    ⟨some 25, .move (.tmp 2), none, []⟩,
    ⟨some 26, .call 432 false (.const (.fn 15 [])) [(.tmp 23), (.tmp 24), (.tmp 25)], none, []⟩,
    ⟨some 22, .move (.tmp 26), none, []⟩,
    ⟨some 27, .extract (.tmp 22) 0, none, []⟩,
    ⟨some 28, .extract (.tmp 22) 1, none, []⟩,
    ⟨some 29, .extract (.tmp 22) 2, none, []⟩,
    ⟨some 9, .move (.tmp 27), none, []⟩,
    ⟨some 10, .move (.tmp 28), none, []⟩,
    ⟨some 11, .move (.tmp 29), none, []⟩])
  (.seq (.region [
    ⟨some 30, .load true 4 (.tmp 3), none, []⟩,
    ⟨some 31, .call 512 true (.const (.fn 16 [])) [(.tmp 30)], none, []⟩,
    ⟨some 12, .new 208 4 (.const (.agg [.nils, .nils, .nils, .nils])), none, []⟩,
    ⟨none, .store true 4 (.tmp 12) (.tmp 31), none, []⟩])
  (.seq (.region [
    ⟨some 32, .fieldAddr 3 (.tmp 12), none, []⟩,
    ⟨some 33, .load false 1 (.tmp 32), none, []⟩,
    ⟨some 34, .move (.tmp 10), none, []⟩,
    ⟨some 35, .indexAddr 7 (.tmp 33) (.tmp 34), none, []⟩,
    ⟨some 13, .move (.tmp 35), none, []⟩])
  (.seq (.drawn [
    ⟨some 36, .move (.tmp 13), none, []⟩,
    ⟨some 37, .move (.tmp 13), none, []⟩,
    ⟨some 38, .nilCheck (.tmp 37), none, [1]⟩,
    ⟨some 39, .fieldAddr 5 (.tmp 38), none, [2]⟩,
    ⟨some 40, .load false 1 (.tmp 39), none, [3]⟩,
    ⟨some 41, .fieldAddr 3 (.tmp 3), none, []⟩,
    ⟨some 42, .load false 1 (.tmp 41), none, [5]⟩,
    ⟨some 43, .move (.tmp 9), none, []⟩,
    ⟨some 44, .indexAddr 7 (.tmp 42) (.tmp 43), none, [6, 7]⟩,
    ⟨some 45, .fieldAddr 5 (.tmp 44), none, [8]⟩,
    ⟨some 46, .load false 1 (.tmp 45), none, [9]⟩,
    ⟨some 47, .bin .add (.tmp 40) (.tmp 46), none, [4, 10]⟩,
    ⟨some 48, .min [(.tmp 47), (.const (.int .i64 255))], none, [11]⟩,
    ⟨some 49, .nilCheck (.tmp 36), none, [0, 0, 1, 2, 3, 4, 5, 6, 7, 8, 9, 10, 11, 12]⟩,
    ⟨some 50, .fieldAddr 5 (.tmp 49), none, [13, 0, 1, 2, 3, 4, 5, 6, 7, 8, 9, 10, 11, 12]⟩,
    ⟨none, .store false 1 (.tmp 50) (.tmp 48), none, [14, 12, 0, 1, 2, 3, 4, 5, 6, 7, 8, 9, 10, 11, 12]⟩])
  (.seq (.drawn [
    ⟨some 51, .move (.tmp 13), none, []⟩,
    ⟨some 52, .move (.tmp 13), none, []⟩,
    ⟨some 53, .nilCheck (.tmp 52), none, [1]⟩,
    ⟨some 54, .fieldAddr 4 (.tmp 53), none, [2]⟩,
    ⟨some 55, .load false 1 (.tmp 54), none, [3]⟩,
    ⟨some 56, .fieldAddr 3 (.tmp 3), none, []⟩,
    ⟨some 57, .load false 1 (.tmp 56), none, [5]⟩,
    ⟨some 58, .move (.tmp 9), none, []⟩,
    ⟨some 59, .indexAddr 7 (.tmp 57) (.tmp 58), none, [6, 7]⟩,
    ⟨some 60, .fieldAddr 4 (.tmp 59), none, [8]⟩,
    ⟨some 61, .load false 1 (.tmp 60), none, [9]⟩,
    ⟨some 62, .buildSlice 1008 1 (.str []) 2 [(0, (.tmp 55)), (1, (.tmp 61))], none, [4, 10]⟩,
    ⟨some 63, .call 1024 false (.const (.fn 17 [])) [(.tmp 62)], none, [11]⟩,
    ⟨some 64, .nilCheck (.tmp 51), none, [0, 0, 1, 2, 3, 4, 5, 6, 7, 8, 9, 10, 11, 12]⟩,
    ⟨some 65, .fieldAddr 4 (.tmp 64), none, [13, 0, 1, 2, 3, 4, 5, 6, 7, 8, 9, 10, 11, 12]⟩,
    ⟨none, .store false 1 (.tmp 65) (.tmp 63), none, [14, 12, 12, 0, 1, 2, 3, 4, 5, 6, 7, 8, 9, 10, 11, 12]⟩])
  (.seq (.region [
    ⟨some 66, .fieldAddr 3 (.tmp 12), none, []⟩,
    ⟨some 67, .load false 1 (.tmp 66), none, []⟩,
    ⟨some 68, .move (.tmp 9), none, []⟩,
    ⟨some 69, .move (.tmp 9), none, []⟩,
    ⟨some 70, .bin .add (.tmp 69) (.const (.int .i64 1)), none, []⟩,
    ⟨some 71, .call 1152 true (.const (.fn 18 [])) [(.tmp 67), (.tmp 68), (.tmp 70)], none, []⟩,
    ⟨some 72, .fieldAddr 3 (.tmp 12), none, []⟩,
    ⟨none, .store false 1 (.tmp 72) (.tmp 71), none, []⟩])
  (.seq (.region [
    ⟨some 73, .load true 4 (.tmp 12), none, []⟩,
    ⟨none, .store true 4 (.tmp 6) (.tmp 73), none, []⟩,
    ⟨some 7, .move (.const (.int .i64 0)), none, []⟩])
  .ret)))))))))
def f7 : AFunc := ⟨3, 74, [], [.cell 6 true 4, .tmp 7], f7_b⟩

/-! 8: hachure/gather.Can -/
def f8_b : ACode :=
  (.seq (.region [
    ⟨some 3, .new 64 4 (.tmp 0), none, []⟩,
    ⟨some 6, .move (.const (.int .i64 0)), none, []⟩])
  (.seq (.region [
    ⟨some 13, .load true 4 (.tmp 3), none, []⟩,
    ⟨some 14, .move (.tmp 1), none, []⟩,
    ⟨some 15, .move (.tmp 2), none, []⟩,
    ⟨some 16, .call 272 false (.const (.fn 15 [])) [(.tmp 13), (.tmp 14), (.tmp 15)], none, []⟩,
    ⟨some 12, .move (.tmp 16), none, []⟩,
    ⟨some 17, .extract (.tmp 12) 0, none, []⟩,
    ⟨some 18, .extract (.tmp 12) 1, none, []⟩,
    ⟨some 19, .extract (.tmp 12) 2, none, []⟩,
    ⟨some 7, .move (.tmp 17), none, []⟩,
    ⟨some 8, .move (.tmp 18), none, []⟩,
    ⟨some 9, .move (.tmp 19), none, []⟩])
  (.seq (.seq (.region [
    ⟨some 20, .move (.tmp 9), none, []⟩,
    ⟨some 21, .un .not (.tmp 20), none, []⟩])
  (.cond (.tmp 21)
  (.seq (.region [
    ⟨some 6, .move (.const (.int .i64 5)), none, []⟩])
  .ret)
  .skip))
  (.seq (.drawn [
    ⟨some 22, .fieldAddr 3 (.tmp 3), none, []⟩,
    ⟨some 23, .load false 1 (.tmp 22), none, [0]⟩,
    ⟨some 24, .move (.tmp 7), none, []⟩,
    ⟨some 25, .indexAddr 7 (.tmp 23) (.tmp 24), none, [1, 2]⟩,
    ⟨some 26, .load true 7 (.tmp 25), none, [3]⟩,
    ⟨some 27, .fieldAddr 3 (.tmp 3), none, []⟩,
    ⟨some 28, .load false 1 (.tmp 27), none, [5]⟩,
    ⟨some 29, .move (.tmp 8), none, []⟩,
    ⟨some 30, .indexAddr 7 (.tmp 28) (.tmp 29), none, [6, 7]⟩,
    ⟨some 31, .load true 7 (.tmp 30), none, [8]⟩,
    ⟨some 10, .new 176 7 (.const (.agg [.int .i64 0, .int .i64 0, .int .i64 0, .str [], .str [], .int .i64 0, .int .i64 0])), none, []⟩,
    ⟨some 11, .new 192 7 (.const (.agg [.int .i64 0, .int .i64 0, .int .i64 0, .str [], .str [], .int .i64 0, .int .i64 0])), none, []⟩,
    ⟨none, .store true 7 (.tmp 10) (.tmp 26), none, [10, 4, 0, 1, 2, 3, 4, 10, 11]⟩,
    ⟨none, .store true 7 (.tmp 11) (.tmp 31), none, [11, 9, 12, 0, 1, 2, 3, 4, 5, 6, 7, 8, 9, 10, 11, 12]⟩])
  (.seq (.block 0 (.seq (.seq (.region [
    ⟨some 33, .move (.tmp 1), none, []⟩,
    ⟨some 34, .move (.tmp 2), none, []⟩,
    ⟨some 35, .bin .eql (.tmp 33) (.tmp 34), none, []⟩,
    ⟨some 32, .move (.tmp 35), none, []⟩])
  (.cond (.tmp 32)
  .skip
  (.seq (.region [
    ⟨some 36, .fieldAddr 3 (.tmp 10), none, []⟩,
    ⟨some 37, .load false 1 (.tmp 36), none, []⟩,
    ⟨some 38, .fieldAddr 3 (.tmp 11), none, []⟩,
    ⟨some 39, .load false 1 (.tmp 38), none, []⟩,
    ⟨some 40, .bin .neq (.tmp 37) (.tmp 39), none, []⟩,
    ⟨some 32, .move (.tmp 40), none, []⟩])
  (.cond (.tmp 32)
  .skip
  (.seq (.region [
    ⟨some 41, .fieldAddr 5 (.tmp 10), none, []⟩,
    ⟨some 42, .load false 1 (.tmp 41), none, []⟩,
    ⟨some 43, .fieldAddr 5 (.tmp 11), none, []⟩,
    ⟨some 44, .load false 1 (.tmp 43), none, []⟩,
    ⟨some 45, .bin .gtr (.tmp 42) (.tmp 44), none, []⟩,
    ⟨some 32, .move (.tmp 45), none, []⟩])
  (.cond (.tmp 32)
  .skip
  (.region [
    ⟨some 46, .fieldAddr 5 (.tmp 10), none, []⟩,
    ⟨some 47, .load false 1 (.tmp 46), none, []⟩,
    ⟨some 48, .fieldAddr 5 (.tmp 11), none, []⟩,
    ⟨some 49, .load false 1 (.tmp 48), none, []⟩,
    ⟨some 50, .bin .eql (.tmp 47) (.tmp 49), none, []⟩,
    ⟨some 51, .move (.tmp 50), none, []⟩,
    ⟨some 52, .fieldAddr 0 (.tmp 10), some (51, true), []⟩,
    ⟨some 53, .load false 1 (.tmp 52), some (51, true), []⟩,
    ⟨some 54, .fieldAddr 0 (.tmp 11), some (51, true), []⟩,
    ⟨some 55, .load false 1 (.tmp 54), some (51, true), []⟩,
    ⟨some 56, .bin .lss (.tmp 53) (.tmp 55), some (51, true), []⟩,
    ⟨some 57, .pick (.tmp 51) (.tmp 56) (.const (.bool false)), none, []⟩,
    ⟨some 32, .move (.tmp 57), none, []⟩])))))))
  (.cond (.tmp 32)
  (.seq (.region [
    ⟨some 6, .move (.const (.int .i64 1)), none, []⟩])
  .ret)
  (.seq (.region [
    ⟨some 59, .fieldAddr 6 (.tmp 10), none, []⟩,
    ⟨some 60, .load false 1 (.tmp 59), none, []⟩,
    ⟨some 61, .fieldAddr 6 (.tmp 11), none, []⟩,
    ⟨some 62, .load false 1 (.tmp 61), none, []⟩,
    ⟨some 63, .bin .neq (.tmp 60) (.tmp 62), none, []⟩,
    ⟨some 58, .move (.tmp 63), none, []⟩])
  (.cond (.tmp 58)
  (.seq (.region [
    ⟨some 6, .move (.const (.int .i64 25)), none, []⟩])
  .ret)
  (.seq (.region [
    ⟨some 65, .fieldAddr 4 (.tmp 10), none, []⟩,
    ⟨some 66, .load false 1 (.tmp 65), none, []⟩,
    ⟨some 67, .bin .neq (.tmp 66) (.const (.str [])), none, []⟩,
    ⟨some 68, .move (.tmp 67), none, []⟩,
    ⟨some 69, .fieldAddr 4 (.tmp 11), some (68, true), []⟩,
    ⟨some 70, .load false 1 (.tmp 69), some (68, true), []⟩,
    ⟨some 71, .bin .neq (.tmp 70) (.const (.str [])), some (68, true), []⟩,
    ⟨some 72, .pick (.tmp 68) (.tmp 71) (.const (.bool false)), none, []⟩,
    ⟨some 73, .move (.tmp 72), none, []⟩,
    ⟨some 74, .fieldAddr 4 (.tmp 10), some (73, true), []⟩,
    ⟨some 75, .load false 1 (.tmp 74), some (73, true), []⟩,
    ⟨some 76, .fieldAddr 4 (.tmp 11), some (73, true), []⟩,
    ⟨some 77, .load false 1 (.tmp 76), some (73, true), []⟩,
    ⟨some 78, .bin .neq (.tmp 75) (.tmp 77), some (73, true), []⟩,
    ⟨some 79, .pick (.tmp 73) (.tmp 78) (.const (.bool false)), none, []⟩,
    ⟨some 64, .move (.tmp 79), none, []⟩])
  (.cond (.tmp 64)
  (.seq (.region [
    ⟨some 6, .move (.const (.int .i64 24)), none, []⟩])
  .ret)
  .skip)))))))
  (.seq (.region [
    ⟨some 6, .move (.const (.int .i64 0)), none, []⟩])
  .ret))))))
def f8 : AFunc := ⟨3, 80, [], [.tmp 6], f8_b⟩

/-! 9: hachure/gather.All -/
abbrev f9_l0 : ACode :=
  (.seq (.region [
    ⟨some 37, .bin .lss (.tmp 36) (.tmp 35), none, []⟩])
  (.seq (.cond (.tmp 37)
  .skip
  (.exit 2))
  (.seq (.block 3 (.seq (.region [
    ⟨some 38, .move (.tmp 36), none, []⟩,
    ⟨some 39, .indexAddr 7 (.tmp 34) (.tmp 36), none, []⟩,
    ⟨some 40, .load true 7 (.tmp 39), none, []⟩,
    ⟨some 10, .new 176 7 (.const (.agg [.int .i64 0, .int .i64 0, .int .i64 0, .str [], .str [], .int .i64 0, .int .i64 0])), none, []⟩,
    ⟨some 9, .move (.tmp 38), none, []⟩,
    ⟨none, .store true 7 (.tmp 10) (.tmp 40), none, []⟩])
  (.seq (.region [
    ⟨some 41, .load true 4 (.tmp 2), none, []⟩,
    ⟨some 42, .fieldAddr 0 (.tmp 10), none, []⟩,
    ⟨some 43, .load false 1 (.tmp 42), none, []⟩,
    ⟨some 44, .call 720 false (.const (.fn 19 [])) [(.tmp 41), (.tmp 43)], none, []⟩,
    ⟨some 45, .move (.tmp 9), none, []⟩,
    ⟨some 46, .bin .eql (.tmp 44) (.tmp 45), none, []⟩,
    ⟨some 47, .move (.tmp 46), none, []⟩,
    ⟨some 48, .load true 4 (.tmp 2), some (47, true), []⟩,
    ⟨some 49, .fieldAddr 0 (.tmp 7), some (47, true), []⟩,
    ⟨some 50, .load false 1 (.tmp 49), some (47, true), []⟩,
    ⟨some 51, .fieldAddr 0 (.tmp 10), some (47, true), []⟩,
    ⟨some 52, .load false 1 (.tmp 51), some (47, true), []⟩,
    ⟨some 53, .call 864 false (.const (.fn 8 [])) [(.tmp 48), (.tmp 50), (.tmp 52)], some (47, true), []⟩,
    ⟨some 54, .bin .eql (.tmp 53) (.const (.int .i64 0)), some (47, true), []⟩,
    ⟨some 55, .pick (.tmp 47) (.tmp 54) (.const (.bool false)), none, []⟩])
  (.cond (.tmp 55)
  (.region [
    ⟨some 56, .move (.tmp 8), none, []⟩,
    ⟨some 57, .load true 7 (.tmp 10), none, []⟩,
    ⟨some 58, .buildSlice 944 7 (.agg [.int .i64 0, .int .i64 0, .int .i64 0, .str [], .str [], .int .i64 0, .int .i64 0]) 1 [(0, (.tmp 57))], none, []⟩,
    ⟨some 59, .append 145 7 1927910799188 (.tmp 56) (.tmp 58), none, []⟩,
    ⟨some 8, .move (.tmp 59), none, []⟩])
  .skip))))
  (.region [
    ⟨some 60, .bin .add (.tmp 36) (.const (.int .i64 1)), none, []⟩,
    ⟨some 36, .move (.tmp 60), none, []⟩]))))
abbrev f9_l1 : ACode :=
  (.seq (.region [
    ⟨some 17, .bin .lss (.tmp 16) (.tmp 15), none, []⟩])
  (.seq (.cond (.tmp 17)
  .skip
  (.exit 0))
  (.seq (.block 1 (.seq (.region [
    ⟨some 18, .move (.tmp 16), none, []⟩,
    ⟨some 19, .indexAddr 7 (.tmp 14) (.tmp 16), none, []⟩,
    ⟨some 20, .load true 7 (.tmp 19), none, []⟩,
    ⟨some 7, .new 128 7 (.const (.agg [.int .i64 0, .int .i64 0, .int .i64 0, .str [], .str [], .int .i64 0, .int .i64 0])), none, []⟩,
    ⟨some 6, .move (.tmp 18), none, []⟩,
    ⟨none, .store true 7 (.tmp 7) (.tmp 20), none, []⟩])
  (.seq (.seq (.region [
    ⟨some 21, .fieldAddr 6 (.tmp 7), none, []⟩,
    ⟨some 22, .load false 1 (.tmp 21), none, []⟩,
    ⟨some 23, .move (.tmp 1), none, []⟩,
    ⟨some 24, .bin .neq (.tmp 22) (.tmp 23), none, []⟩,
    ⟨some 25, .move (.tmp 24), none, []⟩,
    ⟨some 26, .load true 4 (.tmp 2), some (25, false), []⟩,
    ⟨some 27, .fieldAddr 0 (.tmp 7), some (25, false), []⟩,
    ⟨some 28, .load false 1 (.tmp 27), some (25, false), []⟩,
    ⟨some 29, .call 480 false (.const (.fn 19 [])) [(.tmp 26), (.tmp 28)], some (25, false), []⟩,
    ⟨some 30, .move (.tmp 6), some (25, false), []⟩,
    ⟨some 31, .bin .neq (.tmp 29) (.tmp 30), some (25, false), []⟩,
    ⟨some 32, .pick (.tmp 25) (.const (.bool true)) (.tmp 31), none, []⟩])
  (.cond (.tmp 32)
  (.exit 1)
  .skip))
  (.seq (.region [
    ⟨some 8, .move (.const (.nils)), none, []⟩])
  (.seq (.seq (.region [
    ⟨some 33, .fieldAddr 3 (.tmp 2), none, []⟩,
    ⟨some 34, .load false 1 (.tmp 33), none, []⟩,
    ⟨some 35, .len (.tmp 34), none, []⟩,
    ⟨some 36, .move (.const (.int .i64 0)), none, []⟩])
  (.block 2 (.loop f9_l0)))
  (.seq (.region [
    ⟨some 62, .move (.tmp 8), none, []⟩,
    ⟨some 63, .mkFunc 21 [(.tmp 7)], none, []⟩,
    ⟨some 64, .call 1040 false (.const (.fn 20 [])) [(.tmp 62), (.tmp 63)], none, []⟩,
    ⟨some 61, .move (.tmp 64), none, []⟩,
    ⟨some 65, .extract (.tmp 61) 0, none, []⟩,
    ⟨some 66, .extract (.tmp 61) 1, none, []⟩,
    ⟨some 11, .new 192 7 (.const (.agg [.int .i64 0, .int .i64 0, .int .i64 0, .str [], .str [], .int .i64 0, .int .i64 0])), none, []⟩,
    ⟨none, .store true 7 (.tmp 11) (.tmp 65), none, []⟩,
    ⟨some 12, .move (.tmp 66), none, []⟩])
  (.seq (.region [
    ⟨some 67, .move (.tmp 12), none, []⟩])
  (.cond (.tmp 67)
  (.drawn [
    ⟨some 68, .move (.tmp 5), none, []⟩,
    ⟨some 69, .load true 4 (.tmp 2), none, []⟩,
    ⟨some 70, .fieldAddr 0 (.tmp 7), none, []⟩,
    ⟨some 71, .load false 1 (.tmp 70), none, [2]⟩,
    ⟨some 72, .fieldAddr 0 (.tmp 11), none, []⟩,
    ⟨some 73, .load false 1 (.tmp 72), none, [4]⟩,
    ⟨some 74, .call 1200 false (.const (.fn 12 [])) [(.tmp 69), (.tmp 71), (.tmp 73)], none, [1, 3, 5]⟩,
    ⟨some 75, .max [(.const (.int .i64 1)), (.tmp 74)], none, [6]⟩,
    ⟨some 76, .fieldAddr 0 (.tmp 7), none, []⟩,
    ⟨some 77, .load false 1 (.tmp 76), none, [8]⟩,
    ⟨some 78, .fieldAddr 0 (.tmp 11), none, []⟩,
    ⟨some 79, .load false 1 (.tmp 78), none, [10]⟩,
    ⟨some 80, .build [.int .i64 0, .int .i64 0, .int .i64 0, .int .i64 0, .int .i64 0] [(0, 1, (.const (.int .i64 4))), (1, 1, (.tmp 75)), (2, 1, (.tmp 77)), (3, 1, (.tmp 79))], none, [7, 9, 11]⟩,
    ⟨some 81, .buildSlice 1312 5 (.agg [.int .i64 0, .int .i64 0, .int .i64 0, .int .i64 0, .int .i64 0]) 1 [(0, (.tmp 80))], none, [12]⟩,
    ⟨some 82, .append 97 5 3432621667003 (.tmp 68) (.tmp 81), none, [0, 13, 6]⟩,
    ⟨some 5, .move (.tmp 82), none, [14, 14, 0, 1, 2, 3, 4, 5, 6, 7, 8, 9, 10, 11, 12, 13, 14]⟩])
  .skip))))))))
  (.region [
    ⟨some 83, .bin .add (.tmp 16) (.const (.int .i64 1)), none, []⟩,
    ⟨some 16, .move (.tmp 83), none, []⟩]))))
def f9_b : ACode :=
  (.seq (.region [
    ⟨some 2, .new 48 4 (.tmp 0), none, []⟩,
    ⟨some 4, .move (.const (.nils)), none, []⟩])
  (.scope (.seq (.region [
    ⟨some 5, .move (.const (.nils)), none, []⟩])
  (.seq .skip
  (.seq (.seq (.region [
    ⟨some 13, .fieldAddr 3 (.tmp 2), none, []⟩,
    ⟨some 14, .load false 1 (.tmp 13), none, []⟩,
    ⟨some 15, .len (.tmp 14), none, []⟩,
    ⟨some 16, .move (.const (.int .i64 0)), none, []⟩])
  (.block 0 (.loop f9_l1)))
  (.seq (.region [
    ⟨some 84, .move (.tmp 5), none, []⟩,
    ⟨some 85, .call 1376 false (.const (.fn 25 [])) [(.tmp 84), (.const (.fn 26 []))], none, []⟩])
  (.seq (.region [
    ⟨some 86, .move (.tmp 5), none, []⟩,
    ⟨some 4, .move (.tmp 86), none, []⟩])
  .ret)))))))
def f9 : AFunc := ⟨2, 87, [], [.tmp 4], f9_b⟩

/-! 10: hachure/hachureref12.Same -/
abbrev f10_l0 : ACode :=
  (.seq (.seq (.region [
    ⟨some 11, .move (.tmp 5), none, []⟩,
    ⟨some 12, .move (.tmp 0), none, []⟩,
    ⟨some 13, .len (.tmp 12), none, []⟩,
    ⟨some 14, .bin .lss (.tmp 11) (.tmp 13), none, []⟩])
  (.cond (.tmp 14)
  .skip
  (.exit 0)))
  (.seq (.block 1 (.seq (.drawn [
    ⟨some 17, .move (.tmp 0), none, []⟩,
    ⟨some 18, .move (.tmp 5), none, []⟩,
    ⟨some 19, .indexAddr 5 (.tmp 17) (.tmp 18), none, [0, 1]⟩,
    ⟨some 20, .load true 5 (.tmp 19), none, [2]⟩,
    ⟨some 21, .move (.tmp 1), none, []⟩,
    ⟨some 22, .move (.tmp 5), none, []⟩,
    ⟨some 23, .indexAddr 5 (.tmp 21) (.tmp 22), none, [4, 5]⟩,
    ⟨some 24, .load true 5 (.tmp 23), none, [6]⟩,
    ⟨some 25, .eqA true [1, 1, 1, 1, 1] (.tmp 20) (.tmp 24), none, [3, 7]⟩])
  (.cond (.tmp 25)
  (.seq (.region [
    ⟨some 4, .move (.const (.bool false)), none, []⟩])
  .ret)
  .skip)))
  (.region [
    ⟨some 15, .move (.tmp 5), none, []⟩,
    ⟨some 16, .bin .add (.tmp 15) (.const (.int .i64 1)), none, []⟩,
    ⟨some 5, .move (.tmp 16), none, []⟩])))
def f10_b : ACode :=
  (.seq (.region [
    ⟨some 4, .move (.const (.bool false)), none, []⟩])
  (.seq (.seq (.region [
    ⟨some 6, .move (.tmp 0), none, []⟩,
    ⟨some 7, .len (.tmp 6), none, []⟩,
    ⟨some 8, .move (.tmp 1), none, []⟩,
    ⟨some 9, .len (.tmp 8), none, []⟩,
    ⟨some 10, .bin .neq (.tmp 7) (.tmp 9), none, []⟩])
  (.cond (.tmp 10)
  (.seq (.region [
    ⟨some 4, .move (.const (.bool false)), none, []⟩])
  .ret)
  .skip))
  (.seq (.seq (.region [
    ⟨some 5, .move (.const (.int .i64 0)), none, []⟩])
  (.block 0 (.loop f10_l0)))
  (.seq (.region [
    ⟨some 4, .move (.const (.bool true)), none, []⟩])
  .ret))))
def f10 : AFunc := ⟨2, 26, [], [.tmp 4], f10_b⟩

/-! 11: hachure/hachurelaw15.square -/
def f11_b : ACode :=
  (.seq (.region [
    ⟨some 2, .new 48 2 (.tmp 0), none, []⟩,
    ⟨some 3, .new 64 2 (.tmp 1), none, []⟩,
    ⟨some 4, .move (.const (.int .i64 0)), none, []⟩])
  (.seq (.region [
    ⟨some 5, .fieldAddr 0 (.tmp 2), none, []⟩,
    ⟨some 6, .load false 1 (.tmp 5), none, []⟩,
    ⟨some 7, .fieldAddr 0 (.tmp 3), none, []⟩,
    ⟨some 8, .load false 1 (.tmp 7), none, []⟩,
    ⟨some 9, .bin .sub (.tmp 6) (.tmp 8), none, []⟩,
    ⟨some 10, .fieldAddr 0 (.tmp 2), none, []⟩,
    ⟨some 11, .load false 1 (.tmp 10), none, []⟩,
    ⟨some 12, .fieldAddr 0 (.tmp 3), none, []⟩,
    ⟨some 13, .load false 1 (.tmp 12), none, []⟩,
    ⟨some 14, .bin .sub (.tmp 11) (.tmp 13), none, []⟩,
    ⟨some 15, .bin .mul (.tmp 9) (.tmp 14), none, []⟩,
    ⟨some 16, .fieldAddr 1 (.tmp 2), none, []⟩,
    ⟨some 17, .load false 1 (.tmp 16), none, []⟩,
    ⟨some 18, .fieldAddr 1 (.tmp 3), none, []⟩,
    ⟨some 19, .load false 1 (.tmp 18), none, []⟩,
    ⟨some 20, .bin .sub (.tmp 17) (.tmp 19), none, []⟩,
    ⟨some 21, .fieldAddr 1 (.tmp 2), none, []⟩,
    ⟨some 22, .load false 1 (.tmp 21), none, []⟩,
    ⟨some 23, .fieldAddr 1 (.tmp 3), none, []⟩,
    ⟨some 24, .load false 1 (.tmp 23), none, []⟩,
    ⟨some 25, .bin .sub (.tmp 22) (.tmp 24), none, []⟩,
    ⟨some 26, .bin .mul (.tmp 20) (.tmp 25), none, []⟩,
    ⟨some 27, .bin .add (.tmp 15) (.tmp 26), none, []⟩,
    ⟨some 4, .move (.tmp 27), none, []⟩])
  .ret))
def f11 : AFunc := ⟨2, 28, [], [.tmp 4], f11_b⟩

/-! 12: hachure/gather.Cost -/
def f12_b : ACode :=
  (.seq (.region [
    ⟨some 3, .new 64 4 (.tmp 0), none, []⟩,
    ⟨some 6, .move (.const (.int .i64 0)), none, []⟩])
  (.seq (.region [
    ⟨some 11, .load true 4 (.tmp 3), none, []⟩,
    ⟨some 12, .move (.tmp 1), none, []⟩,
    ⟨some 13, .move (.tmp 2), none, []⟩,
    ⟨some 14, .call 240 false (.const (.fn 15 [])) [(.tmp 11), (.tmp 12), (.tmp 13)], none, []⟩,
    ⟨some 10, .move (.tmp 14), none, []⟩,
    ⟨some 15, .extract (.tmp 10) 0, none, []⟩,
    ⟨some 16, .extract (.tmp 10) 1, none, []⟩,
    ⟨some 17, .extract (.tmp 10) 2, none, []⟩,
    ⟨some 7, .move (.tmp 15), none, []⟩,
    ⟨some 8, .move (.tmp 16), none, []⟩,
    ⟨some 9, .move (.tmp 17), none, []⟩])
  (.seq (.seq (.region [
    ⟨some 18, .move (.tmp 9), none, []⟩,
    ⟨some 19, .un .not (.tmp 18), none, []⟩])
  (.cond (.tmp 19)
  (.seq (.region [
    ⟨some 6, .move (.const (.int .i64 0)), none, []⟩])
  .ret)
  .skip))
  (.seq (.drawn [
    ⟨some 20, .fieldAddr 3 (.tmp 3), none, []⟩,
    ⟨some 21, .load false 1 (.tmp 20), none, [0]⟩,
    ⟨some 22, .move (.tmp 7), none, []⟩,
    ⟨some 23, .indexAddr 7 (.tmp 21) (.tmp 22), none, [1, 2]⟩,
    ⟨some 24, .fieldAddr 1 (.tmp 23), none, [3]⟩,
    ⟨some 25, .load true 2 (.tmp 24), none, [4]⟩,
    ⟨some 26, .fieldAddr 3 (.tmp 3), none, []⟩,
    ⟨some 27, .load false 1 (.tmp 26), none, [6]⟩,
    ⟨some 28, .move (.tmp 8), none, []⟩,
    ⟨some 29, .indexAddr 7 (.tmp 27) (.tmp 28), none, [7, 8]⟩,
    ⟨some 30, .fieldAddr 1 (.tmp 29), none, [9]⟩,
    ⟨some 31, .load true 2 (.tmp 30), none, [10]⟩,
    ⟨some 32, .call 528 false (.const (.fn 24 [])) [(.tmp 25), (.tmp 31)], none, [5, 11]⟩,
    ⟨some 33, .call 544 false (.const (.fn 27 [])) [(.tmp 32)], none, [12, 12]⟩,
    ⟨some 34, .bin .quo (.tmp 33) (.const (.int .i64 4)), none, [13]⟩,
    ⟨some 6, .move (.tmp 34), none, [14, 13, 0, 1, 2, 3, 4, 5, 6, 7, 8, 9, 10, 11, 12, 13, 14]⟩])
  .ret))))
def f12 : AFunc := ⟨3, 35, [], [.tmp 6], f12_b⟩

/-! 13: hachure/hachurelaw15.example -/
def f13_b : ACode :=
  (.seq (.region [
    ⟨some 0, .new 16 4 (.const (.agg [.nils, .nils, .nils, .nils])), none, []⟩])
  (.seq (.region [
    ⟨some 1, .call 32 false (.const (.fn 14 [])) [(.const (.int .i64 1)), (.const (.str [116, 114, 101, 101])), (.const (.str [])), (.const (.int .i64 3)), (.const (.int .i64 0)), (.const (.int .i64 0))], none, []⟩,
    ⟨some 2, .call 48 false (.const (.fn 14 [])) [(.const (.int .i64 2)), (.const (.str [116, 114, 101, 101])), (.const (.str [])), (.const (.int .i64 3)), (.const (.int .i64 30)), (.const (.int .i64 40))], none, []⟩,
    ⟨some 3, .call 64 false (.const (.fn 14 [])) [(.const (.int .i64 3)), (.const (.str [116, 114, 101, 101])), (.const (.str [69, 108, 109])), (.const (.int .i64 2)), (.const (.int .i64 6)), (.const (.int .i64 8))], none, []⟩,
    ⟨some 4, .call 80 false (.const (.fn 14 [])) [(.const (.int .i64 4)), (.const (.str [116, 114, 101, 101])), (.const (.str [79, 97, 107])), (.const (.int .i64 1)), (.const (.int .i64 90)), (.const (.int .i64 0))], none, []⟩,
    ⟨some 5, .call 96 false (.const (.fn 14 [])) [(.const (.int .i64 5)), (.const (.str [119, 101, 108, 108])), (.const (.str [])), (.const (.int .i64 9)), (.const (.int .i64 1)), (.const (.int .i64 0))], none, []⟩,
    ⟨some 6, .buildSlice 112 7 (.agg [.int .i64 0, .int .i64 0, .int .i64 0, .str [], .str [], .int .i64 0, .int .i64 0]) 5 [(0, (.tmp 1)), (1, (.tmp 2)), (2, (.tmp 3)), (3, (.tmp 4)), (4, (.tmp 5))], none, []⟩,
    ⟨some 7, .build [.nils, .nils, .nils, .nils] [(3, 1, (.tmp 6))], none, []⟩,
    ⟨none, .store true 4 (.tmp 0) (.tmp 7), none, []⟩])
  .ret))
def f13 : AFunc := ⟨0, 8, [], [.cell 0 true 4], f13_b⟩

/-! 14: hachure/hachurelaw15.place -/
def f14_b : ACode :=
  (.seq (.region [
    ⟨some 12, .new 208 7 (.const (.agg [.int .i64 0, .int .i64 0, .int .i64 0, .str [], .str [], .int .i64 0, .int .i64 0])), none, []⟩])
  (.seq (.region [
    ⟨some 13, .move (.tmp 0), none, []⟩,
    ⟨some 14, .move (.tmp 4), none, []⟩,
    ⟨some 15, .move (.tmp 5), none, []⟩,
    ⟨some 16, .build [.int .i64 0, .int .i64 0] [(0, 1, (.tmp 14)), (1, 1, (.tmp 15))], none, []⟩,
    ⟨some 17, .move (.tmp 1), none, []⟩,
    ⟨some 18, .move (.tmp 2), none, []⟩,
    ⟨some 19, .move (.tmp 3), none, []⟩,
    ⟨some 20, .build [.int .i64 0, .int .i64 0, .int .i64 0, .str [], .str [], .int .i64 0, .int .i64 0] [(0, 1, (.tmp 13)), (1, 2, (.tmp 16)), (3, 1, (.tmp 17)), (4, 1, (.tmp 18)), (5, 1, (.tmp 19)), (6, 1, (.const (.int .i64 1)))], none, []⟩,
    ⟨none, .store true 7 (.tmp 12) (.tmp 20), none, []⟩])
  .ret))
def f14 : AFunc := ⟨6, 21, [], [.cell 12 true 7], f14_b⟩

/-! 15: hachure/gather.both -/
def f15_b : ACode :=
  (.seq (.region [
    ⟨some 3, .new 64 4 (.tmp 0), none, []⟩,
    ⟨some 6, .move (.const (.int .i64 0)), none, []⟩,
    ⟨some 7, .move (.const (.int .i64 0)), none, []⟩,
    ⟨some 8, .move (.const (.bool false)), none, []⟩])
  (.seq (.drawn [
    ⟨some 11, .load true 4 (.tmp 3), none, []⟩,
    ⟨some 12, .move (.tmp 1), none, []⟩,
    ⟨some 13, .call 224 false (.const (.fn 19 [])) [(.tmp 11), (.tmp 12)], none, [0, 1]⟩,
    ⟨some 14, .load true 4 (.tmp 3), none, []⟩,
    ⟨some 15, .move (.tmp 2), none, []⟩,
    ⟨some 16, .call 272 false (.const (.fn 19 [])) [(.tmp 14), (.tmp 15)], none, [3, 4, 2]⟩,
    ⟨some 9, .move (.tmp 13), none, [2, 5, 0, 1, 2]⟩,
    ⟨some 10, .move (.tmp 16), none, [5, 6, 0, 1, 2, 3, 4, 5, 6]⟩])
  (.seq (.region [
    ⟨some 17, .move (.tmp 9), none, []⟩,
    ⟨some 18, .move (.tmp 10), none, []⟩,
    ⟨some 19, .move (.tmp 9), none, []⟩,
    ⟨some 20, .bin .geq (.tmp 19) (.const (.int .i64 0)), none, []⟩,
    ⟨some 21, .move (.tmp 20), none, []⟩,
    ⟨some 22, .move (.tmp 10), some (21, true), []⟩,
    ⟨some 23, .bin .geq (.tmp 22) (.const (.int .i64 0)), some (21, true), []⟩,
    ⟨some 24, .pick (.tmp 21) (.tmp 23) (.const (.bool false)), none, []⟩,
    ⟨some 6, .move (.tmp 17), none, []⟩,
    ⟨some 7, .move (.tmp 18), none, []⟩,
    ⟨some 8, .move (.tmp 24), none, []⟩])
  .ret)))
def f15 : AFunc := ⟨3, 25, [], [.tmp 6, .tmp 7, .tmp 8], f15_b⟩

/-! 16: hachure/gather.copied -/
abbrev f16_l0 : ACode :=
  (.seq (.region [
    ⟨some 23, .bin .lss (.tmp 22) (.tmp 21), none, []⟩])
  (.seq (.cond (.tmp 23)
  .skip
  (.exit 0))
  (.seq (.block 1 (.seq (.region [
    ⟨some 24, .move (.tmp 22), none, []⟩,
    ⟨some 4, .move (.tmp 24), none, []⟩])
  (.drawn [
    ⟨some 25, .fieldAddr 0 (.tmp 3), none, []⟩,
    ⟨some 26, .load false 1 (.tmp 25), none, [0]⟩,
    ⟨some 27, .move (.tmp 4), none, []⟩,
    ⟨some 28, .fieldAddr 0 (.tmp 3), none, []⟩,
    ⟨some 29, .load false 1 (.tmp 28), none, [3]⟩,
    ⟨some 30, .move (.tmp 4), none, []⟩,
    ⟨some 31, .indexAddr 4 (.tmp 29) (.tmp 30), none, [4, 5]⟩,
    ⟨some 32, .fieldAddr 1 (.tmp 31), none, [6]⟩,
    ⟨some 33, .load false 1 (.tmp 32), none, [7]⟩,
    ⟨some 34, .call 560 false (.const (.fn 32 [])) [(.tmp 33)], none, [8]⟩,
    ⟨some 35, .indexAddr 4 (.tmp 26) (.tmp 27), none, [1, 2, 0, 1, 2, 3, 4, 5, 6, 7, 8, 9]⟩,
    ⟨some 36, .fieldAddr 1 (.tmp 35), none, [10, 0, 1, 2, 3, 4, 5, 6, 7, 8, 9]⟩,
    ⟨none, .store false 1 (.tmp 36) (.tmp 34), none, [11, 9, 9, 0, 1, 2, 3, 4, 5, 6, 7, 8, 9]⟩])))
  (.region [
    ⟨some 37, .bin .add (.tmp 22) (.const (.int .i64 1)), none, []⟩,
    ⟨some 22, .move (.tmp 37), none, []⟩]))))
abbrev f16_l1 : ACode :=
  (.seq (.region [
    ⟨some 42, .bin .lss (.tmp 41) (.tmp 40), none, []⟩])
  (.seq (.cond (.tmp 42)
  .skip
  (.exit 2))
  (.seq (.block 3 (.seq (.region [
    ⟨some 43, .move (.tmp 41), none, []⟩,
    ⟨some 5, .move (.tmp 43), none, []⟩])
  (.drawn [
    ⟨some 44, .fieldAddr 2 (.tmp 3), none, []⟩,
    ⟨some 45, .load false 1 (.tmp 44), none, [0]⟩,
    ⟨some 46, .move (.tmp 5), none, []⟩,
    ⟨some 47, .fieldAddr 2 (.tmp 3), none, []⟩,
    ⟨some 48, .load false 1 (.tmp 47), none, [3]⟩,
    ⟨some 49, .move (.tmp 5), none, []⟩,
    ⟨some 50, .indexAddr 8 (.tmp 48) (.tmp 49), none, [4, 5]⟩,
    ⟨some 51, .fieldAddr 1 (.tmp 50), none, [6]⟩,
    ⟨some 52, .load false 1 (.tmp 51), none, [7]⟩,
    ⟨some 53, .call 864 false (.const (.fn 32 [])) [(.tmp 52)], none, [8]⟩,
    ⟨some 54, .indexAddr 8 (.tmp 45) (.tmp 46), none, [1, 2, 0, 1, 2, 3, 4, 5, 6, 7, 8, 9]⟩,
    ⟨some 55, .fieldAddr 1 (.tmp 54), none, [10, 0, 1, 2, 3, 4, 5, 6, 7, 8, 9]⟩,
    ⟨none, .store false 1 (.tmp 55) (.tmp 53), none, [11, 9, 9, 0, 1, 2, 3, 4, 5, 6, 7, 8, 9]⟩])))
  (.region [
    ⟨some 56, .bin .add (.tmp 41) (.const (.int .i64 1)), none, []⟩,
    ⟨some 41, .move (.tmp 56), none, []⟩]))))
def f16_b : ACode :=
  (.seq (.region [
    ⟨some 1, .new 32 4 (.tmp 0), none, []⟩,
    ⟨some 2, .new 48 4 (.const (.agg [.nils, .nils, .nils, .nils])), none, []⟩])
  (.seq (.drawn [
    ⟨some 6, .fieldAddr 0 (.tmp 1), none, []⟩,
    ⟨some 7, .load false 1 (.tmp 6), none, [0]⟩,
    ⟨some 8, .call 144 true (.const (.fn 28 [])) [(.tmp 7)], none, [1]⟩,
    ⟨some 9, .fieldAddr 1 (.tmp 1), none, []⟩,
    ⟨some 10, .load false 1 (.tmp 9), none, [3]⟩,
    ⟨some 11, .call 192 true (.const (.fn 29 [])) [(.tmp 10)], none, [4, 2]⟩,
    ⟨some 12, .fieldAddr 2 (.tmp 1), none, []⟩,
    ⟨some 13, .load false 1 (.tmp 12), none, [6]⟩,
    ⟨some 14, .call 240 true (.const (.fn 30 [])) [(.tmp 13)], none, [7, 5]⟩,
    ⟨some 15, .fieldAddr 3 (.tmp 1), none, []⟩,
    ⟨some 16, .load false 1 (.tmp 15), none, [9]⟩,
    ⟨some 17, .call 288 true (.const (.fn 31 [])) [(.tmp 16)], none, [10, 8]⟩,
    ⟨some 18, .build [.nils, .nils, .nils, .nils] [(0, 1, (.tmp 8)), (1, 1, (.tmp 11)), (2, 1, (.tmp 14)), (3, 1, (.tmp 17))], none, [2, 5, 8, 11]⟩,
    ⟨some 3, .new 64 4 (.const (.agg [.nils, .nils, .nils, .nils])), none, []⟩,
    ⟨none, .store true 4 (.tmp 3) (.tmp 18), none, [13, 12, 11, 0, 1, 2, 3, 4, 5, 6, 7, 8, 9, 10, 11, 12, 13]⟩])
  (.seq (.seq (.region [
    ⟨some 19, .fieldAddr 0 (.tmp 3), none, []⟩,
    ⟨some 20, .load false 1 (.tmp 19), none, []⟩,
    ⟨some 21, .len (.tmp 20), none, []⟩,
    ⟨some 22, .move (.const (.int .i64 0)), none, []⟩])
  (.block 0 (.loop f16_l0)))
  (.seq (.seq (.region [
    ⟨some 38, .fieldAddr 2 (.tmp 3), none, []⟩,
    ⟨some 39, .load false 1 (.tmp 38), none, []⟩,
    ⟨some 40, .len (.tmp 39), none, []⟩,
    ⟨some 41, .move (.const (.int .i64 0)), none, []⟩])
  (.block 2 (.loop f16_l1)))
  (.seq (.region [
    ⟨some 57, .load true 4 (.tmp 3), none, []⟩,
    ⟨none, .store true 4 (.tmp 2) (.tmp 57), none, []⟩])
  .ret)))))
def f16 : AFunc := ⟨1, 58, [], [.cell 2 true 4], f16_b⟩

/-! 17: cmp.Or[string] -/
abbrev f17_l0 : ACode :=
  (.seq (.region [
    ⟨some 9, .bin .lss (.tmp 8) (.tmp 7), none, []⟩])
  (.seq (.cond (.tmp 9)
  .skip
  (.exit 0))
  (.seq (.block 1 (.seq (.region [
    ⟨some 10, .indexAddr 1 (.tmp 6) (.tmp 8), none, []⟩,
    ⟨some 11, .load false 1 (.tmp 10), none, []⟩,
    ⟨some 5, .move (.tmp 11), none, []⟩])
  (.seq (.region [
    ⟨some 12, .move (.tmp 5), none, []⟩,
    ⟨some 13, .move (.tmp 3), none, []⟩,
    ⟨some 14, .bin .neq (.tmp 12) (.tmp 13), none, []⟩])
  (.cond (.tmp 14)
  (.seq (.region [
    ⟨some 15, .move (.tmp 5), none, []⟩,
    ⟨some 2, .move (.tmp 15), none, []⟩])
  .ret)
  .skip))))
  (.region [
    ⟨some 16, .bin .add (.tmp 8) (.const (.int .i64 1)), none, []⟩,
    ⟨some 8, .move (.tmp 16), none, []⟩]))))
def f17_b : ACode :=
  (.seq (.region [
    ⟨some 2, .move (.const (.str [])), none, []⟩])
  (.seq (.region [
    ⟨some 3, .move (.const (.str [])), none, []⟩])
  (.seq (.seq (.region [
    ⟨some 6, .move (.tmp 0), none, []⟩,
    ⟨some 7, .len (.tmp 6), none, []⟩,
    ⟨some 8, .move (.const (.int .i64 0)), none, []⟩])
  (.block 0 (.loop f17_l0)))
  (.seq (.region [
    ⟨some 17, .move (.tmp 3), none, []⟩,
    ⟨some 2, .move (.tmp 17), none, []⟩])
  .ret))))
def f17 : AFunc := ⟨1, 18, [], [.tmp 2], f17_b⟩

/-! 18: slices.Delete[[]hachure/api.Place,hachure/api.Place] -/
def f18_b : ACode :=
  (.seq (.region [
    ⟨some 6, .move (.const (.nils)), none, []⟩])
  (.seq (.region [
    ⟨some 8, .move (.tmp 0), none, []⟩,
    ⟨some 9, .move (.tmp 1), none, []⟩,
    ⟨some 10, .move (.tmp 2), none, []⟩,
    ⟨some 11, .move (.tmp 0), none, []⟩,
    ⟨some 12, .len (.tmp 11), none, []⟩,
    ⟨some 13, .slice 7 (.tmp 8) (some (.tmp 9)) (some (.tmp 10)) (some (.tmp 12)), none, []⟩])
  (.seq (.seq (.region [
    ⟨some 14, .move (.tmp 1), none, []⟩,
    ⟨some 15, .move (.tmp 2), none, []⟩,
    ⟨some 16, .bin .eql (.tmp 14) (.tmp 15), none, []⟩])
  (.cond (.tmp 16)
  (.seq (.region [
    ⟨some 17, .move (.tmp 0), none, []⟩,
    ⟨some 6, .move (.tmp 17), none, []⟩])
  .ret)
  .skip))
  (.seq (.region [
    ⟨some 18, .move (.tmp 0), none, []⟩,
    ⟨some 19, .len (.tmp 18), none, []⟩,
    ⟨some 7, .move (.tmp 19), none, []⟩])
  (.seq (.drawn [
    ⟨some 20, .move (.tmp 0), none, []⟩,
    ⟨some 21, .move (.tmp 1), none, []⟩,
    ⟨some 22, .slice 7 (.tmp 20) none (some (.tmp 21)) none, none, [0, 1]⟩,
    ⟨some 23, .move (.tmp 0), none, []⟩,
    ⟨some 24, .move (.tmp 2), none, []⟩,
    ⟨some 25, .slice 7 (.tmp 23) (some (.tmp 24)) none none, none, [3, 4]⟩,
    ⟨some 26, .append 432 7 1927910799188 (.tmp 22) (.tmp 25), none, [2, 5]⟩,
    ⟨some 0, .move (.tmp 26), none, [6, 6, 0, 1, 2, 3, 4, 5, 6]⟩])
  (.seq (.region [
    ⟨some 27, .move (.tmp 0), none, []⟩,
    ⟨some 28, .move (.tmp 0), none, []⟩,
    ⟨some 29, .len (.tmp 28), none, []⟩,
    ⟨some 30, .move (.tmp 7), none, []⟩,
    ⟨some 31, .slice 7 (.tmp 27) (some (.tmp 29)) (some (.tmp 30)) none, none, []⟩,
    ⟨none, .clear 7 (.agg [.int .i64 0, .int .i64 0, .int .i64 0, .str [], .str [], .int .i64 0, .int .i64 0]) (.tmp 31), none, []⟩])
  (.seq (.region [
    ⟨some 32, .move (.tmp 0), none, []⟩,
    ⟨some 6, .move (.tmp 32), none, []⟩])
  .ret)))))))
def f18 : AFunc := ⟨3, 33, [some 7, none, none], [.tmp 6], f18_b⟩

/-! 19: hachure/gather.find -/
def f19_b : ACode :=
  (.seq (.region [
    ⟨some 2, .new 48 4 (.tmp 0), none, []⟩,
    ⟨some 3, .new 64 1 (.tmp 1), none, []⟩,
    ⟨some 4, .move (.const (.int .i64 0)), none, []⟩])
  (.seq (.region [
    ⟨some 5, .fieldAddr 3 (.tmp 2), none, []⟩,
    ⟨some 6, .load false 1 (.tmp 5), none, []⟩,
    ⟨some 7, .mkFunc 34 [(.tmp 3)], none, []⟩,
    ⟨some 8, .call 144 false (.const (.fn 33 [])) [(.tmp 6), (.tmp 7)], none, []⟩,
    ⟨some 4, .move (.tmp 8), none, []⟩])
  .ret))
def f19 : AFunc := ⟨2, 9, [], [.tmp 4], f19_b⟩

/-! 20: hachure/gather.least[hachure/api.Place] -/
def f20_b : ACode :=
  (.seq (.region [
    ⟨some 4, .new 80 7 (.const (.agg [.int .i64 0, .int .i64 0, .int .i64 0, .str [], .str [], .int .i64 0, .int .i64 0])), none, []⟩,
    ⟨some 5, .move (.const (.bool false)), none, []⟩])
  (.seq (.seq (.region [
    ⟨some 7, .move (.tmp 0), none, []⟩,
    ⟨some 8, .len (.tmp 7), none, []⟩,
    ⟨some 9, .bin .eql (.tmp 8) (.const (.int .i64 0)), none, []⟩])
  (.cond (.tmp 9)
  (.seq (.region [
    ⟨some 6, .new 112 7 (.const (.agg [.int .i64 0, .int .i64 0, .int .i64 0, .str [], .str [], .int .i64 0, .int .i64 0])), none, []⟩])
  (.seq (.region [
    ⟨some 10, .load true 7 (.tmp 6), none, []⟩,
    ⟨none, .store true 7 (.tmp 4) (.tmp 10), none, []⟩,
    ⟨some 5, .move (.const (.bool false)), none, []⟩])
  .ret))
  .skip))
  (.seq (.region [
    ⟨some 11, .move (.tmp 0), none, []⟩,
    ⟨some 12, .move (.tmp 1), none, []⟩,
    ⟨some 13, .call 224 false (.const (.fn 35 [])) [(.tmp 11), (.tmp 12)], none, []⟩,
    ⟨none, .store true 7 (.tmp 4) (.tmp 13), none, []⟩,
    ⟨some 5, .move (.const (.bool true)), none, []⟩])
  .ret)))
def f20 : AFunc := ⟨2, 14, [], [.cell 4 true 7, .tmp 5], f20_b⟩

/-! 21: hachure/gather.All$1 -/
def f21_b : ACode :=
  (.seq (.region [
    ⟨some 3, .new 64 7 (.tmp 0), none, []⟩,
    ⟨some 4, .new 80 7 (.tmp 1), none, []⟩,
    ⟨some 5, .move (.const (.int .i64 0)), none, []⟩])
  (.seq (.drawn [
    ⟨some 6, .fieldAddr 1 (.tmp 2), none, []⟩,
    ⟨some 7, .load true 2 (.tmp 6), none, [0]⟩,
    ⟨some 8, .fieldAddr 1 (.tmp 3), none, []⟩,
    ⟨some 9, .load true 2 (.tmp 8), none, [2]⟩,
    ⟨some 10, .call 176 false (.const (.fn 24 [])) [(.tmp 7), (.tmp 9)], none, [1, 3]⟩,
    ⟨some 11, .fieldAddr 1 (.tmp 2), none, []⟩,
    ⟨some 12, .load true 2 (.tmp 11), none, [5]⟩,
    ⟨some 13, .fieldAddr 1 (.tmp 4), none, []⟩,
    ⟨some 14, .load true 2 (.tmp 13), none, [7]⟩,
    ⟨some 15, .call 256 false (.const (.fn 24 [])) [(.tmp 12), (.tmp 14)], none, [6, 8, 4]⟩,
    ⟨some 16, .call 272 false (.const (.fn 23 [])) [(.tmp 10), (.tmp 15)], none, [4, 9, 9]⟩,
    ⟨some 17, .fieldAddr 0 (.tmp 3), none, []⟩,
    ⟨some 18, .load false 1 (.tmp 17), none, [11]⟩,
    ⟨some 19, .fieldAddr 0 (.tmp 4), none, []⟩,
    ⟨some 20, .load false 1 (.tmp 19), none, [13]⟩,
    ⟨some 21, .call 352 false (.const (.fn 23 [])) [(.tmp 18), (.tmp 20)], none, [12, 14, 10]⟩,
    ⟨some 22, .buildSlice 368 1 (.int .i64 0) 2 [(0, (.tmp 16)), (1, (.tmp 21))], none, [10, 15]⟩,
    ⟨some 23, .call 384 false (.const (.fn 22 [])) [(.tmp 22)], none, [16, 15]⟩,
    ⟨some 5, .move (.tmp 23), none, [17, 17, 0, 1, 2, 3, 4, 5, 6, 7, 8, 9, 10, 11, 12, 13, 14, 15, 16, 17]⟩])
  .ret))
def f21 : AFunc := ⟨3, 24, [], [.tmp 5], f21_b⟩

/-! 22: cmp.Or[int] -/
abbrev f22_l0 : ACode :=
  (.seq (.region [
    ⟨some 9, .bin .lss (.tmp 8) (.tmp 7), none, []⟩])
  (.seq (.cond (.tmp 9)
  .skip
  (.exit 0))
  (.seq (.block 1 (.seq (.region [
    ⟨some 10, .indexAddr 1 (.tmp 6) (.tmp 8), none, []⟩,
    ⟨some 11, .load false 1 (.tmp 10), none, []⟩,
    ⟨some 5, .move (.tmp 11), none, []⟩])
  (.seq (.region [
    ⟨some 12, .move (.tmp 5), none, []⟩,
    ⟨some 13, .move (.tmp 3), none, []⟩,
    ⟨some 14, .bin .neq (.tmp 12) (.tmp 13), none, []⟩])
  (.cond (.tmp 14)
  (.seq (.region [
    ⟨some 15, .move (.tmp 5), none, []⟩,
    ⟨some 2, .move (.tmp 15), none, []⟩])
  .ret)
  .skip))))
  (.region [
    ⟨some 16, .bin .add (.tmp 8) (.const (.int .i64 1)), none, []⟩,
    ⟨some 8, .move (.tmp 16), none, []⟩]))))
def f22_b : ACode :=
  (.seq (.region [
    ⟨some 2, .move (.const (.int .i64 0)), none, []⟩])
  (.seq (.region [
    ⟨some 3, .move (.const (.int .i64 0)), none, []⟩])
  (.seq (.seq (.region [
    ⟨some 6, .move (.tmp 0), none, []⟩,
    ⟨some 7, .len (.tmp 6), none, []⟩,
    ⟨some 8, .move (.const (.int .i64 0)), none, []⟩])
  (.block 0 (.loop f22_l0)))
  (.seq (.region [
    ⟨some 17, .move (.tmp 3), none, []⟩,
    ⟨some 2, .move (.tmp 17), none, []⟩])
  .ret))))
def f22 : AFunc := ⟨1, 18, [], [.tmp 2], f22_b⟩

/-! 23: cmp.Compare[int] -/
def f23_b : ACode :=
  (.seq (.region [
    ⟨some 4, .move (.const (.int .i64 0)), none, []⟩])
  (.seq (.region [
    ⟨some 7, .move (.tmp 0), none, []⟩,
    ⟨some 8, .call 144 false (.const (.fn 36 [])) [(.tmp 7)], none, []⟩,
    ⟨some 5, .move (.tmp 8), none, []⟩])
  (.seq (.region [
    ⟨some 9, .move (.tmp 1), none, []⟩,
    ⟨some 10, .call 176 false (.const (.fn 36 [])) [(.tmp 9)], none, []⟩,
    ⟨some 6, .move (.tmp 10), none, []⟩])
  (.seq (.seq (.region [
    ⟨some 11, .move (.tmp 5), none, []⟩])
  (.cond (.tmp 11)
  (.seq (.seq (.region [
    ⟨some 12, .move (.tmp 6), none, []⟩])
  (.cond (.tmp 12)
  (.seq (.region [
    ⟨some 4, .move (.const (.int .i64 0)), none, []⟩])
  .ret)
  .skip))
  (.seq (.region [
    ⟨some 4, .move (.const (.int .i64 (-1))), none, []⟩])
  .ret))
  .skip))
  (.seq (.seq (.region [
    ⟨some 13, .move (.tmp 6), none, []⟩])
  (.cond (.tmp 13)
  (.seq (.region [
    ⟨some 4, .move (.const (.int .i64 1)), none, []⟩])
  .ret)
  .skip))
  (.seq (.seq (.region [
    ⟨some 14, .move (.tmp 0), none, []⟩,
    ⟨some 15, .move (.tmp 1), none, []⟩,
    ⟨some 16, .bin .lss (.tmp 14) (.tmp 15), none, []⟩])
  (.cond (.tmp 16)
  (.seq (.region [
    ⟨some 4, .move (.const (.int .i64 (-1))), none, []⟩])
  .ret)
  .skip))
  (.seq (.seq (.region [
    ⟨some 17, .move (.tmp 0), none, []⟩,
    ⟨some 18, .move (.tmp 1), none, []⟩,
    ⟨some 19, .bin .gtr (.tmp 17) (.tmp 18), none, []⟩])
  (.cond (.tmp 19)
  (.seq (.region [
    ⟨some 4, .move (.const (.int .i64 1)), none, []⟩])
  .ret)
  .skip))
  (.seq (.region [
    ⟨some 4, .move (.const (.int .i64 0)), none, []⟩])
  .ret))))))))
def f23 : AFunc := ⟨2, 20, [], [.tmp 4], f23_b⟩

/-! 24: hachure/gather.square -/
def f24_b : ACode :=
  (.seq (.region [
    ⟨some 2, .new 48 2 (.tmp 0), none, []⟩,
    ⟨some 3, .new 64 2 (.tmp 1), none, []⟩,
    ⟨some 4, .move (.const (.int .i64 0)), none, []⟩])
  (.seq (.region [
    ⟨some 6, .load true 2 (.tmp 2), none, []⟩,
    ⟨some 7, .load true 2 (.tmp 3), none, []⟩,
    ⟨some 8, .call 144 false (.const (.fn 37 [])) [(.tmp 6), (.tmp 7)], none, []⟩,
    ⟨some 5, .new 96 2 (.const (.agg [.int .i64 0, .int .i64 0])), none, []⟩,
    ⟨none, .store true 2 (.tmp 5) (.tmp 8), none, []⟩])
  (.seq (.region [
    ⟨some 9, .load true 2 (.tmp 5), none, []⟩,
    ⟨some 10, .load true 2 (.tmp 5), none, []⟩,
    ⟨some 11, .call 192 false (.const (.fn 38 [])) [(.tmp 9), (.tmp 10)], none, []⟩,
    ⟨some 4, .move (.tmp 11), none, []⟩])
  .ret)))
def f24 : AFunc := ⟨2, 12, [], [.tmp 4], f24_b⟩

/-! 25: slices.SortFunc[[]hachure/api.Event,hachure/api.Event] -/
def f25_b : ACode :=
  (.seq (.region [
    ⟨some 5, .move (.tmp 0), none, []⟩,
    ⟨some 6, .len (.tmp 5), none, []⟩,
    ⟨some 4, .move (.tmp 6), none, []⟩])
  (.region [
    ⟨some 7, .move (.tmp 0), none, []⟩,
    ⟨some 8, .move (.tmp 4), none, []⟩,
    ⟨some 9, .move (.tmp 4), none, []⟩,
    ⟨some 10, .convInt .u64 (.tmp 9), none, []⟩,
    ⟨some 11, .call 192 false (.const (.fn 40 [])) [(.tmp 10)], none, []⟩,
    ⟨some 12, .move (.tmp 1), none, []⟩,
    ⟨some 13, .call 224 false (.const (.fn 39 [])) [(.tmp 7), (.const (.int .i64 0)), (.tmp 8), (.tmp 11), (.tmp 12)], none, []⟩]))
def f25 : AFunc := ⟨2, 14, [some 5, none], [], f25_b⟩

/-! 26: hachure/gather.All$2 -/
def f26_b : ACode :=
  (.seq (.region [
    ⟨some 2, .new 48 5 (.tmp 0), none, []⟩,
    ⟨some 3, .new 64 5 (.tmp 1), none, []⟩,
    ⟨some 4, .move (.const (.int .i64 0)), none, []⟩])
  (.seq (.region [
    ⟨some 5, .fieldAddr 2 (.tmp 2), none, []⟩,
    ⟨some 6, .load false 1 (.tmp 5), none, []⟩,
    ⟨some 7, .fieldAddr 2 (.tmp 3), none, []⟩,
    ⟨some 8, .load false 1 (.tmp 7), none, []⟩,
    ⟨some 9, .call 160 false (.const (.fn 23 [])) [(.tmp 6), (.tmp 8)], none, []⟩,
    ⟨some 4, .move (.tmp 9), none, []⟩])
  .ret))
def f26 : AFunc := ⟨2, 10, [], [.tmp 4], f26_b⟩

/-! 27: hachure/exact.Sqrt -/
abbrev f27_l0 : ACode :=
  (.seq (.seq (.region [
    ⟨some 11, .move (.tmp 3), none, []⟩,
    ⟨some 12, .move (.tmp 3), none, []⟩,
    ⟨some 13, .bin .mul (.tmp 11) (.tmp 12), none, []⟩,
    ⟨some 14, .move (.tmp 0), none, []⟩,
    ⟨some 15, .bin .gtr (.tmp 13) (.tmp 14), none, []⟩])
  (.cond (.tmp 15)
  .skip
  (.exit 0)))
  (.block 1 (.region [
    ⟨some 16, .move (.tmp 3), none, []⟩,
    ⟨some 17, .bin .sub (.tmp 16) (.const (.int .i64 1)), none, []⟩,
    ⟨some 3, .move (.tmp 17), none, []⟩])))
abbrev f27_l1 : ACode :=
  (.seq (.seq (.region [
    ⟨some 18, .move (.tmp 3), none, []⟩,
    ⟨some 19, .bin .lss (.tmp 18) (.const (.int .i64 3037000499)), none, []⟩,
    ⟨some 20, .move (.tmp 19), none, []⟩,
    ⟨some 21, .move (.tmp 3), some (20, true), []⟩,
    ⟨some 22, .bin .add (.tmp 21) (.const (.int .i64 1)), some (20, true), []⟩,
    ⟨some 23, .move (.tmp 3), some (20, true), []⟩,
    ⟨some 24, .bin .add (.tmp 23) (.const (.int .i64 1)), some (20, true), []⟩,
    ⟨some 25, .bin .mul (.tmp 22) (.tmp 24), some (20, true), []⟩,
    ⟨some 26, .move (.tmp 0), some (20, true), []⟩,
    ⟨some 27, .bin .leq (.tmp 25) (.tmp 26), some (20, true), []⟩,
    ⟨some 28, .pick (.tmp 20) (.tmp 27) (.const (.bool false)), none, []⟩])
  (.cond (.tmp 28)
  .skip
  (.exit 2)))
  (.block 3 (.region [
    ⟨some 29, .move (.tmp 3), none, []⟩,
    ⟨some 30, .bin .add (.tmp 29) (.const (.int .i64 1)), none, []⟩,
    ⟨some 3, .move (.tmp 30), none, []⟩])))
def f27_b : ACode :=
  (.seq (.region [
    ⟨some 2, .move (.const (.int .i64 0)), none, []⟩])
  (.seq (.seq (.region [
    ⟨some 4, .move (.tmp 0), none, []⟩,
    ⟨some 5, .bin .leq (.tmp 4) (.const (.int .i64 0)), none, []⟩])
  (.cond (.tmp 5)
  (.seq (.region [
    ⟨some 2, .move (.const (.int .i64 0)), none, []⟩])
  .ret)
  .skip))
  (.seq (.region [
    ⟨some 6, .move (.tmp 0), none, []⟩,
    ⟨some 7, .convIF (.tmp 6), none, []⟩,
    ⟨some 8, .call 144 false (.const (.fn 41 [])) [(.tmp 7)], none, []⟩,
    ⟨some 9, .convFI .i64 (.tmp 8), none, []⟩,
    ⟨some 10, .min [(.tmp 9), (.const (.int .i64 3037000499))], none, []⟩,
    ⟨some 3, .move (.tmp 10), none, []⟩])
  (.seq (.block 0 (.loop f27_l0))
  (.seq (.block 2 (.loop f27_l1))
  (.seq (.region [
    ⟨some 31, .move (.tmp 3), none, []⟩,
    ⟨some 2, .move (.tmp 31), none, []⟩])
  .ret))))))
def f27 : AFunc := ⟨1, 32, [], [.tmp 2], f27_b⟩

/-! 33: slices.IndexFunc[[]hachure/api.Place,hachure/api.Place] -/
abbrev f33_l0 : ACode :=
  (.seq (.region [
    ⟨some 9, .bin .lss (.tmp 8) (.tmp 7), none, []⟩])
  (.seq (.cond (.tmp 9)
  .skip
  (.exit 0))
  (.seq (.block 1 (.seq (.region [
    ⟨some 10, .move (.tmp 8), none, []⟩,
    ⟨some 5, .move (.tmp 10), none, []⟩])
  (.seq (.region [
    ⟨some 11, .move (.tmp 1), none, []⟩,
    ⟨some 12, .move (.tmp 0), none, []⟩,
    ⟨some 13, .move (.tmp 5), none, []⟩,
    ⟨some 14, .indexAddr 7 (.tmp 12) (.tmp 13), none, []⟩,
    ⟨some 15, .load true 7 (.tmp 14), none, []⟩,
    ⟨some 16, .call 272 false (.tmp 11) [(.tmp 15)], none, []⟩])
  (.cond (.tmp 16)
  (.seq (.region [
    ⟨some 17, .move (.tmp 5), none, []⟩,
    ⟨some 4, .move (.tmp 17), none, []⟩])
  .ret)
  .skip))))
  (.region [
    ⟨some 18, .bin .add (.tmp 8) (.const (.int .i64 1)), none, []⟩,
    ⟨some 8, .move (.tmp 18), none, []⟩]))))
def f33_b : ACode :=
  (.seq (.region [
    ⟨some 4, .move (.const (.int .i64 0)), none, []⟩])
  (.seq (.seq (.region [
    ⟨some 6, .move (.tmp 0), none, []⟩,
    ⟨some 7, .len (.tmp 6), none, []⟩,
    ⟨some 8, .move (.const (.int .i64 0)), none, []⟩])
  (.block 0 (.loop f33_l0)))
  (.seq (.region [
    ⟨some 4, .move (.const (.int .i64 (-1))), none, []⟩])
  .ret)))
def f33 : AFunc := ⟨2, 19, [], [.tmp 4], f33_b⟩

/-! 34: hachure/gather.find$1 -/
def f34_b : ACode :=
  (.seq (.region [
    ⟨some 2, .new 48 7 (.tmp 0), none, []⟩,
    ⟨some 3, .move (.const (.bool false)), none, []⟩])
  (.seq (.region [
    ⟨some 4, .fieldAddr 0 (.tmp 2), none, []⟩,
    ⟨some 5, .load false 1 (.tmp 4), none, []⟩,
    ⟨some 6, .load false 1 (.tmp 1), none, []⟩,
    ⟨some 7, .bin .eql (.tmp 5) (.tmp 6), none, []⟩,
    ⟨some 3, .move (.tmp 7), none, []⟩])
  .ret))
def f34 : AFunc := ⟨2, 8, [], [.tmp 3], f34_b⟩

/-! 35: slices.MinFunc[[]hachure/api.Place,hachure/api.Place] -/
abbrev f35_l0 : ACode :=
  (.seq (.seq (.region [
    ⟨some 14, .move (.tmp 6), none, []⟩,
    ⟨some 15, .move (.tmp 0), none, []⟩,
    ⟨some 16, .len (.tmp 15), none, []⟩,
    ⟨some 17, .bin .lss (.tmp 14) (.tmp 16), none, []⟩])
  (.cond (.tmp 17)
  .skip
  (.exit 0)))
  (.seq (.block 1 (.seq (.drawn [
    ⟨some 20, .move (.tmp 1), none, []⟩,
    ⟨some 21, .move (.tmp 0), none, []⟩,
    ⟨some 22, .move (.tmp 6), none, []⟩,
    ⟨some 23, .indexAddr 7 (.tmp 21) (.tmp 22), none, [1, 2]⟩,
    ⟨some 24, .load true 7 (.tmp 23), none, [3]⟩,
    ⟨some 25, .load true 7 (.tmp 5), none, []⟩,
    ⟨some 26, .call 432 false (.tmp 20) [(.tmp 24), (.tmp 25)], none, [0, 4, 5]⟩,
    ⟨some 27, .bin .lss (.tmp 26) (.const (.int .i64 0)), none, [6]⟩])
  (.cond (.tmp 27)
  (.region [
    ⟨some 28, .move (.tmp 0), none, []⟩,
    ⟨some 29, .move (.tmp 6), none, []⟩,
    ⟨some 30, .indexAddr 7 (.tmp 28) (.tmp 29), none, []⟩,
    ⟨some 31, .load true 7 (.tmp 30), none, []⟩,
    ⟨none, .store true 7 (.tmp 5) (.tmp 31), none, []⟩])
  .skip)))
  (.region [
    ⟨some 18, .move (.tmp 6), none, []⟩,
    ⟨some 19, .bin .add (.tmp 18) (.const (.int .i64 1)), none, []⟩,
    ⟨some 6, .move (.tmp 19), none, []⟩])))
def f35_b : ACode :=
  (.seq (.region [
    ⟨some 4, .new 80 7 (.const (.agg [.int .i64 0, .int .i64 0, .int .i64 0, .str [], .str [], .int .i64 0, .int .i64 0])), none, []⟩])
  (.seq (.seq (.region [
    ⟨some 7, .move (.tmp 0), none, []⟩,
    ⟨some 8, .len (.tmp 7), none, []⟩,
    ⟨some 9, .bin .lss (.tmp 8) (.const (.int .i64 1)), none, []⟩])
  (.cond (.tmp 9)
  (.region [
    ⟨some 10, .mkIface 9 (.const (.str [115, 108, 105, 99, 101, 115, 46, 77, 105, 110, 70, 117, 110, 99, 58, 32, 101, 109, 112, 116, 121, 32, 108, 105, 115, 116])), none, []⟩,
    ⟨none, .bad, none, []⟩])
  .skip))
  (.seq (.region [
    ⟨some 11, .move (.tmp 0), none, []⟩,
    ⟨some 12, .indexAddr 7 (.tmp 11) (.const (.int .i64 0)), none, []⟩,
    ⟨some 13, .load true 7 (.tmp 12), none, []⟩,
    ⟨some 5, .new 96 7 (.const (.agg [.int .i64 0, .int .i64 0, .int .i64 0, .str [], .str [], .int .i64 0, .int .i64 0])), none, []⟩,
    ⟨none, .store true 7 (.tmp 5) (.tmp 13), none, []⟩])
  (.seq (.seq (.region [
    ⟨some 6, .move (.const (.int .i64 1)), none, []⟩])
  (.block 0 (.loop f35_l0)))
  (.seq (.region [
    ⟨some 32, .load true 7 (.tmp 5), none, []⟩,
    ⟨none, .store true 7 (.tmp 4) (.tmp 32), none, []⟩])
  .ret)))))
def f35 : AFunc := ⟨2, 33, [], [.cell 4 true 7], f35_b⟩

/-! 36: cmp.isNaN[int] -/
def f36_b : ACode :=
  (.seq (.region [
    ⟨some 2, .move (.const (.bool false)), none, []⟩])
  (.seq (.region [
    ⟨some 3, .move (.tmp 0), none, []⟩,
    ⟨some 4, .move (.tmp 0), none, []⟩,
    ⟨some 5, .bin .neq (.tmp 3) (.tmp 4), none, []⟩,
    ⟨some 2, .move (.tmp 5), none, []⟩])
  .ret))
def f36 : AFunc := ⟨1, 6, [], [.tmp 2], f36_b⟩

/-! 37: hachure/point.Sub -/
def f37_b : ACode :=
  (.seq (.region [
    ⟨some 2, .new 48 2 (.tmp 0), none, []⟩,
    ⟨some 3, .new 64 2 (.tmp 1), none, []⟩,
    ⟨some 4, .new 80 2 (.const (.agg [.int .i64 0, .int .i64 0])), none, []⟩])
  (.seq (.region [
    ⟨some 5, .fieldAddr 0 (.tmp 2), none, []⟩,
    ⟨some 6, .load false 1 (.tmp 5), none, []⟩,
    ⟨some 7, .fieldAddr 0 (.tmp 3), none, []⟩,
    ⟨some 8, .load false 1 (.tmp 7), none, []⟩,
    ⟨some 9, .bin .sub (.tmp 6) (.tmp 8), none, []⟩,
    ⟨some 10, .fieldAddr 1 (.tmp 2), none, []⟩,
    ⟨some 11, .load false 1 (.tmp 10), none, []⟩,
    ⟨some 12, .fieldAddr 1 (.tmp 3), none, []⟩,
    ⟨some 13, .load false 1 (.tmp 12), none, []⟩,
    ⟨some 14, .bin .sub (.tmp 11) (.tmp 13), none, []⟩,
    ⟨some 15, .build [.int .i64 0, .int .i64 0] [(0, 1, (.tmp 9)), (1, 1, (.tmp 14))], none, []⟩,
    ⟨none, .store true 2 (.tmp 4) (.tmp 15), none, []⟩])
  .ret))
def f37 : AFunc := ⟨2, 16, [], [.cell 4 true 2], f37_b⟩

/-! 38: hachure/point.Dot -/
def f38_b : ACode :=
  (.seq (.region [
    ⟨some 2, .new 48 2 (.tmp 0), none, []⟩,
    ⟨some 3, .new 64 2 (.tmp 1), none, []⟩,
    ⟨some 4, .move (.const (.int .i64 0)), none, []⟩])
  (.seq (.region [
    ⟨some 5, .fieldAddr 0 (.tmp 2), none, []⟩,
    ⟨some 6, .load false 1 (.tmp 5), none, []⟩,
    ⟨some 7, .fieldAddr 0 (.tmp 3), none, []⟩,
    ⟨some 8, .load false 1 (.tmp 7), none, []⟩,
    ⟨some 9, .bin .mul (.tmp 6) (.tmp 8), none, []⟩,
    ⟨some 10, .fieldAddr 1 (.tmp 2), none, []⟩,
    ⟨some 11, .load false 1 (.tmp 10), none, []⟩,
    ⟨some 12, .fieldAddr 1 (.tmp 3), none, []⟩,
    ⟨some 13, .load false 1 (.tmp 12), none, []⟩,
    ⟨some 14, .bin .mul (.tmp 11) (.tmp 13), none, []⟩,
    ⟨some 15, .bin .add (.tmp 9) (.tmp 14), none, []⟩,
    ⟨some 4, .move (.tmp 15), none, []⟩])
  .ret))
def f38 : AFunc := ⟨2, 16, [], [.tmp 4], f38_b⟩

/-! 39: slices.pdqsortCmpFunc[hachure/api.Event] -/
abbrev f39_l0 : ACode :=
  (.block 1 (.seq (.region [
    ⟨some 21, .move (.tmp 2), none, []⟩,
    ⟨some 22, .move (.tmp 1), none, []⟩,
    ⟨some 23, .bin .sub (.tmp 21) (.tmp 22), none, []⟩,
    ⟨some 12, .move (.tmp 23), none, []⟩])
  (.seq (.seq (.region [
    ⟨some 24, .move (.tmp 12), none, []⟩,
    ⟨some 25, .bin .leq (.tmp 24) (.const (.int .i64 12)), none, []⟩])
  (.cond (.tmp 25)
  (.seq (.region [
    ⟨some 26, .move (.tmp 0), none, []⟩,
    ⟨some 27, .move (.tmp 1), none, []⟩,
    ⟨some 28, .move (.tmp 2), none, []⟩,
    ⟨some 29, .move (.tmp 4), none, []⟩,
    ⟨some 30, .call 496 false (.const (.fn 42 [])) [(.tmp 26), (.tmp 27), (.tmp 28), (.tmp 29)], none, []⟩])
  .ret)
  .skip))
  (.seq (.seq (.region [
    ⟨some 31, .move (.tmp 3), none, []⟩,
    ⟨some 32, .bin .eql (.tmp 31) (.const (.int .i64 0)), none, []⟩])
  (.cond (.tmp 32)
  (.seq (.region [
    ⟨some 33, .move (.tmp 0), none, []⟩,
    ⟨some 34, .move (.tmp 1), none, []⟩,
    ⟨some 35, .move (.tmp 2), none, []⟩,
    ⟨some 36, .move (.tmp 4), none, []⟩,
    ⟨some 37, .call 608 false (.const (.fn 43 [])) [(.tmp 33), (.tmp 34), (.tmp 35), (.tmp 36)], none, []⟩])
  .ret)
  .skip))
  (.seq (.seq (.region [
    ⟨some 38, .move (.tmp 10), none, []⟩,
    ⟨some 39, .un .not (.tmp 38), none, []⟩])
  (.cond (.tmp 39)
  (.seq (.region [
    ⟨some 40, .move (.tmp 0), none, []⟩,
    ⟨some 41, .move (.tmp 1), none, []⟩,
    ⟨some 42, .move (.tmp 2), none, []⟩,
    ⟨some 43, .move (.tmp 4), none, []⟩,
    ⟨some 44, .call 720 false (.const (.fn 44 [])) [(.tmp 40), (.tmp 41), (.tmp 42), (.tmp 43)], none, []⟩])
  (.region [
    ⟨some 45, .move (.tmp 3), none, []⟩,
    ⟨some 46, .bin .sub (.tmp 45) (.const (.int .i64 1)), none, []⟩,
    ⟨some 3, .move (.tmp 46), none, []⟩]))
  .skip))
  (.seq (.region [
    ⟨some 48, .move (.tmp 0), none, []⟩,
    ⟨some 49, .move (.tmp 1), none, []⟩,
    ⟨some 50, .move (.tmp 2), none, []⟩,
    ⟨some 51, .move (.tmp 4), none, []⟩,
    ⟨some 52, .call 848 false (.const (.fn 45 [])) [(.tmp 48), (.tmp 49), (.tmp 50), (.tmp 51)], none, []⟩,
    ⟨some 47, .move (.tmp 52), none, []⟩,
    ⟨some 53, .extract (.tmp 47) 0, none, []⟩,
    ⟨some 54, .extract (.tmp 47) 1, none, []⟩,
    ⟨some 13, .move (.tmp 53), none, []⟩,
    ⟨some 14, .move (.tmp 54), none, []⟩])
  (.seq (.seq (.region [
    ⟨some 55, .move (.tmp 14), none, []⟩,
    ⟨some 56, .bin .eql (.tmp 55) (.const (.int .i64 2)), none, []⟩])
  (.cond (.tmp 56)
  (.seq (.region [
    ⟨some 57, .move (.tmp 0), none, []⟩,
    ⟨some 58, .move (.tmp 1), none, []⟩,
    ⟨some 59, .move (.tmp 2), none, []⟩,
    ⟨some 60, .move (.tmp 4), none, []⟩,
    ⟨some 61, .call 992 false (.const (.fn 46 [])) [(.tmp 57), (.tmp 58), (.tmp 59), (.tmp 60)], none, []⟩])
  (.seq (.region [
    ⟨some 62, .move (.tmp 2), none, []⟩,
    ⟨some 63, .bin .sub (.tmp 62) (.const (.int .i64 1)), none, []⟩,
    ⟨some 64, .move (.tmp 13), none, []⟩,
    ⟨some 65, .move (.tmp 1), none, []⟩,
    ⟨some 66, .bin .sub (.tmp 64) (.tmp 65), none, []⟩,
    ⟨some 67, .bin .sub (.tmp 63) (.tmp 66), none, []⟩,
    ⟨some 13, .move (.tmp 67), none, []⟩])
  (.region [
    ⟨some 14, .move (.const (.int .i64 1)), none, []⟩])))
  .skip))
  (.seq (.seq (.region [
    ⟨some 68, .move (.tmp 10), none, []⟩,
    ⟨some 69, .move (.tmp 68), none, []⟩,
    ⟨some 70, .move (.tmp 11), some (69, true), []⟩,
    ⟨some 71, .pick (.tmp 69) (.tmp 70) (.const (.bool false)), none, []⟩,
    ⟨some 72, .move (.tmp 71), none, []⟩,
    ⟨some 73, .move (.tmp 14), some (72, true), []⟩,
    ⟨some 74, .bin .eql (.tmp 73) (.const (.int .i64 1)), some (72, true), []⟩,
    ⟨some 75, .pick (.tmp 72) (.tmp 74) (.const (.bool false)), none, []⟩])
  (.cond (.tmp 75)
  (.seq (.region [
    ⟨some 76, .move (.tmp 0), none, []⟩,
    ⟨some 77, .move (.tmp 1), none, []⟩,
    ⟨some 78, .move (.tmp 2), none, []⟩,
    ⟨some 79, .move (.tmp 4), none, []⟩,
    ⟨some 80, .call 1296 false (.const (.fn 47 [])) [(.tmp 76), (.tmp 77), (.tmp 78), (.tmp 79)], none, []⟩])
  (.cond (.tmp 80)
  .ret
  .skip))
  .skip))
  (.seq (.seq (.drawn [
    ⟨some 81, .move (.tmp 1), none, []⟩,
    ⟨some 82, .bin .gtr (.tmp 81) (.const (.int .i64 0)), none, [0]⟩,
    ⟨some 83, .move (.tmp 82), none, [1]⟩,
    ⟨some 84, .move (.tmp 4), some (83, true), [2]⟩,
    ⟨some 85, .move (.tmp 0), some (83, true), [2]⟩,
    ⟨some 86, .move (.tmp 1), some (83, true), [2]⟩,
    ⟨some 87, .bin .sub (.tmp 86) (.const (.int .i64 1)), some (83, true), [5, 2]⟩,
    ⟨some 88, .indexAddr 5 (.tmp 85) (.tmp 87), some (83, true), [4, 6, 2]⟩,
    ⟨some 89, .load true 5 (.tmp 88), some (83, true), [7, 2]⟩,
    ⟨some 90, .move (.tmp 0), some (83, true), [2]⟩,
    ⟨some 91, .move (.tmp 13), some (83, true), [2]⟩,
    ⟨some 92, .indexAddr 5 (.tmp 90) (.tmp 91), some (83, true), [9, 10, 2]⟩,
    ⟨some 93, .load true 5 (.tmp 92), some (83, true), [11, 2]⟩,
    ⟨some 94, .call 1520 false (.tmp 84) [(.tmp 89), (.tmp 93)], some (83, true), [3, 8, 12, 2, 2]⟩,
    ⟨some 95, .bin .lss (.tmp 94) (.const (.int .i64 0)), some (83, true), [13, 2]⟩,
    ⟨some 96, .un .not (.tmp 95), some (83, true), [14, 2]⟩,
    ⟨some 97, .pick (.tmp 83) (.tmp 96) (.const (.bool false)), none, [2, 15]⟩])
  (.cond (.tmp 97)
  (.seq (.region [
    ⟨some 98, .move (.tmp 0), none, []⟩,
    ⟨some 99, .move (.tmp 1), none, []⟩,
    ⟨some 100, .move (.tmp 2), none, []⟩,
    ⟨some 101, .move (.tmp 13), none, []⟩,
    ⟨some 102, .move (.tmp 4), none, []⟩,
    ⟨some 103, .call 1664 false (.const (.fn 48 [])) [(.tmp 98), (.tmp 99), (.tmp 100), (.tmp 101), (.tmp 102)], none, []⟩,
    ⟨some 15, .move (.tmp 103), none, []⟩])
  (.seq (.region [
    ⟨some 104, .move (.tmp 15), none, []⟩,
    ⟨some 1, .move (.tmp 104), none, []⟩])
  (.exit 1)))
  .skip))
  (.seq (.region [
    ⟨some 106, .move (.tmp 0), none, []⟩,
    ⟨some 107, .move (.tmp 1), none, []⟩,
    ⟨some 108, .move (.tmp 2), none, []⟩,
    ⟨some 109, .move (.tmp 13), none, []⟩,
    ⟨some 110, .move (.tmp 4), none, []⟩,
    ⟨some 111, .call 1792 false (.const (.fn 49 [])) [(.tmp 106), (.tmp 107), (.tmp 108), (.tmp 109), (.tmp 110)], none, []⟩,
    ⟨some 105, .move (.tmp 111), none, []⟩,
    ⟨some 112, .extract (.tmp 105) 0, none, []⟩,
    ⟨some 113, .extract (.tmp 105) 1, none, []⟩,
    ⟨some 16, .move (.tmp 112), none, []⟩,
    ⟨some 17, .move (.tmp 113), none, []⟩])
  (.seq (.region [
    ⟨some 114, .move (.tmp 17), none, []⟩,
    ⟨some 11, .move (.tmp 114), none, []⟩])
  (.seq (.region [
    ⟨some 115, .move (.tmp 16), none, []⟩,
    ⟨some 116, .move (.tmp 1), none, []⟩,
    ⟨some 117, .bin .sub (.tmp 115) (.tmp 116), none, []⟩,
    ⟨some 118, .move (.tmp 2), none, []⟩,
    ⟨some 119, .move (.tmp 16), none, []⟩,
    ⟨some 120, .bin .sub (.tmp 118) (.tmp 119), none, []⟩,
    ⟨some 18, .move (.tmp 117), none, []⟩,
    ⟨some 19, .move (.tmp 120), none, []⟩])
  (.seq (.region [
    ⟨some 121, .move (.tmp 12), none, []⟩,
    ⟨some 122, .bin .quo (.tmp 121) (.const (.int .i64 8)), none, []⟩,
    ⟨some 20, .move (.tmp 122), none, []⟩])
  (.seq (.region [
    ⟨some 123, .move (.tmp 18), none, []⟩,
    ⟨some 124, .move (.tmp 19), none, []⟩,
    ⟨some 125, .bin .lss (.tmp 123) (.tmp 124), none, []⟩])
  (.cond (.tmp 125)
  (.seq (.region [
    ⟨some 126, .move (.tmp 18), none, []⟩,
    ⟨some 127, .move (.tmp 20), none, []⟩,
    ⟨some 128, .bin .geq (.tmp 126) (.tmp 127), none, []⟩,
    ⟨some 10, .move (.tmp 128), none, []⟩])
  (.seq (.region [
    ⟨some 129, .move (.tmp 0), none, []⟩,
    ⟨some 130, .move (.tmp 1), none, []⟩,
    ⟨some 131, .move (.tmp 16), none, []⟩,
    ⟨some 132, .move (.tmp 3), none, []⟩,
    ⟨some 133, .move (.tmp 4), none, []⟩,
    ⟨some 134, .call 2160 false (.const (.fn 39 [])) [(.tmp 129), (.tmp 130), (.tmp 131), (.tmp 132), (.tmp 133)], none, []⟩])
  (.region [
    ⟨some 135, .move (.tmp 16), none, []⟩,
    ⟨some 136, .bin .add (.tmp 135) (.const (.int .i64 1)), none, []⟩,
    ⟨some 1, .move (.tmp 136), none, []⟩])))
  (.seq (.region [
    ⟨some 137, .move (.tmp 19), none, []⟩,
    ⟨some 138, .move (.tmp 20), none, []⟩,
    ⟨some 139, .bin .geq (.tmp 137) (.tmp 138), none, []⟩,
    ⟨some 10, .move (.tmp 139), none, []⟩])
  (.seq (.region [
    ⟨some 140, .move (.tmp 0), none, []⟩,
    ⟨some 141, .move (.tmp 16), none, []⟩,
    ⟨some 142, .bin .add (.tmp 141) (.const (.int .i64 1)), none, []⟩,
    ⟨some 143, .move (.tmp 2), none, []⟩,
    ⟨some 144, .move (.tmp 3), none, []⟩,
    ⟨some 145, .move (.tmp 4), none, []⟩,
    ⟨some 146, .call 2352 false (.const (.fn 39 [])) [(.tmp 140), (.tmp 142), (.tmp 143), (.tmp 144), (.tmp 145)], none, []⟩])
  (.region [
    ⟨some 147, .move (.tmp 16), none, []⟩,
    ⟨some 2, .move (.tmp 147), none, []⟩]))))))))))))))))))
def f39_b : ACode :=
  (.seq (.region [
    ⟨some 10, .move (.const (.bool true)), none, []⟩])
  (.seq (.region [
    ⟨some 11, .move (.const (.bool true)), none, []⟩])
  (.block 0 (.loop f39_l0))))
def f39 : AFunc := ⟨5, 148, [some 5, none, none, none, none], [], f39_b⟩

/-! 40: math/bits.Len -/
def f40_b : ACode :=
  (.seq (.region [
    ⟨some 2, .move (.const (.int .i64 0)), none, []⟩])
  (.seq (.cond (.const (.bool false))
  (.seq (.region [
    ⟨some 3, .move (.tmp 0), none, []⟩,
    ⟨some 4, .convInt .u32 (.tmp 3), none, []⟩,
    ⟨some 5, .call 96 false (.const (.fn 50 [])) [(.tmp 4)], none, []⟩,
    ⟨some 2, .move (.tmp 5), none, []⟩])
  .ret)
  .skip)
  (.seq (.region [
    ⟨some 6, .move (.tmp 0), none, []⟩,
    ⟨some 7, .call 128 false (.const (.fn 51 [])) [(.tmp 6)], none, []⟩,
    ⟨some 2, .move (.tmp 7), none, []⟩])
  .ret)))
def f40 : AFunc := ⟨1, 8, [], [.tmp 2], f40_b⟩

/-! 41: math.Sqrt -/
def f41_b : ACode :=
  (.seq (.region [
    ⟨some 2, .move (.const (.float 0)), none, []⟩])
  (.seq (.region [
    ⟨some 3, .move (.tmp 0), none, []⟩,
    ⟨some 4, .call 80 false (.const (.fn 52 [])) [(.tmp 3)], none, []⟩,
    ⟨some 2, .move (.tmp 4), none, []⟩])
  .ret))
def f41 : AFunc := ⟨1, 5, [], [.tmp 2], f41_b⟩

/-! 42: slices.insertionSortCmpFunc[hachure/api.Event] -/
abbrev f42_l0 : ACode :=
  (.seq (.seq (.drawn [
    ⟨some 18, .move (.tmp 9), none, []⟩,
    ⟨some 19, .move (.tmp 1), none, []⟩,
    ⟨some 20, .bin .gtr (.tmp 18) (.tmp 19), none, [0, 1]⟩,
    ⟨some 21, .move (.tmp 20), none, [2]⟩,
    ⟨some 22, .move (.tmp 3), some (21, true), [3]⟩,
    ⟨some 23, .move (.tmp 0), some (21, true), [3]⟩,
    ⟨some 24, .move (.tmp 9), some (21, true), [3]⟩,
    ⟨some 25, .indexAddr 5 (.tmp 23) (.tmp 24), some (21, true), [5, 6, 3]⟩,
    ⟨some 26, .load true 5 (.tmp 25), some (21, true), [7, 3]⟩,
    ⟨some 27, .move (.tmp 0), some (21, true), [3]⟩,
    ⟨some 28, .move (.tmp 9), some (21, true), [3]⟩,
    ⟨some 29, .bin .sub (.tmp 28) (.const (.int .i64 1)), some (21, true), [10, 3]⟩,
    ⟨some 30, .indexAddr 5 (.tmp 27) (.tmp 29), some (21, true), [9, 11, 3]⟩,
    ⟨some 31, .load true 5 (.tmp 30), some (21, true), [12, 3]⟩,
    ⟨some 32, .call 528 false (.tmp 22) [(.tmp 26), (.tmp 31)], some (21, true), [4, 8, 13, 3, 3]⟩,
    ⟨some 33, .bin .lss (.tmp 32) (.const (.int .i64 0)), some (21, true), [14, 3]⟩,
    ⟨some 34, .pick (.tmp 21) (.tmp 33) (.const (.bool false)), none, [3, 15]⟩])
  (.cond (.tmp 34)
  .skip
  (.exit 2)))
  (.seq (.block 3 (.drawn [
    ⟨some 37, .move (.tmp 0), none, []⟩,
    ⟨some 38, .move (.tmp 9), none, []⟩,
    ⟨some 39, .move (.tmp 0), none, []⟩,
    ⟨some 40, .move (.tmp 9), none, []⟩,
    ⟨some 41, .bin .sub (.tmp 40) (.const (.int .i64 1)), none, [3]⟩,
    ⟨some 42, .move (.tmp 0), none, []⟩,
    ⟨some 43, .move (.tmp 9), none, []⟩,
    ⟨some 44, .bin .sub (.tmp 43) (.const (.int .i64 1)), none, [6]⟩,
    ⟨some 45, .indexAddr 5 (.tmp 42) (.tmp 44), none, [5, 7]⟩,
    ⟨some 46, .load true 5 (.tmp 45), none, [8]⟩,
    ⟨some 47, .move (.tmp 0), none, []⟩,
    ⟨some 48, .move (.tmp 9), none, []⟩,
    ⟨some 49, .indexAddr 5 (.tmp 47) (.tmp 48), none, [10, 11]⟩,
    ⟨some 50, .load true 5 (.tmp 49), none, [12]⟩,
    ⟨some 51, .indexAddr 5 (.tmp 37) (.tmp 38), none, [0, 1, 0, 1, 5, 6, 7, 8, 9, 13]⟩,
    ⟨none, .store true 5 (.tmp 51) (.tmp 46), none, [14, 9, 0, 1, 5, 6, 7, 8, 9, 13]⟩,
    ⟨some 52, .indexAddr 5 (.tmp 39) (.tmp 41), none, [2, 4, 0, 1, 2, 3, 4, 5, 6, 7, 8, 9, 10, 11, 12, 13, 14, 15]⟩,
    ⟨none, .store true 5 (.tmp 52) (.tmp 50), none, [16, 13, 15, 0, 1, 2, 3, 4, 5, 6, 7, 8, 9, 10, 11, 12, 13, 14, 15]⟩]))
  (.region [
    ⟨some 35, .move (.tmp 9), none, []⟩,
    ⟨some 36, .bin .sub (.tmp 35) (.const (.int .i64 1)), none, []⟩,
    ⟨some 9, .move (.tmp 36), none, []⟩])))
abbrev f42_l1 : ACode :=
  (.seq (.seq (.region [
    ⟨some 12, .move (.tmp 8), none, []⟩,
    ⟨some 13, .move (.tmp 2), none, []⟩,
    ⟨some 14, .bin .lss (.tmp 12) (.tmp 13), none, []⟩])
  (.cond (.tmp 14)
  .skip
  (.exit 0)))
  (.seq (.block 1 (.seq (.region [
    ⟨some 17, .move (.tmp 8), none, []⟩,
    ⟨some 9, .move (.tmp 17), none, []⟩])
  (.block 2 (.loop f42_l0))))
  (.region [
    ⟨some 15, .move (.tmp 8), none, []⟩,
    ⟨some 16, .bin .add (.tmp 15) (.const (.int .i64 1)), none, []⟩,
    ⟨some 8, .move (.tmp 16), none, []⟩])))
def f42_b : ACode :=
  (.seq (.region [
    ⟨some 10, .move (.tmp 1), none, []⟩,
    ⟨some 11, .bin .add (.tmp 10) (.const (.int .i64 1)), none, []⟩,
    ⟨some 8, .move (.tmp 11), none, []⟩])
  (.block 0 (.loop f42_l1)))
def f42 : AFunc := ⟨4, 53, [some 5, none, none, none], [], f42_b⟩

/-! 43: slices.heapSortCmpFunc[hachure/api.Event] -/
abbrev f43_l0 : ACode :=
  (.seq (.seq (.region [
    ⟨some 20, .move (.tmp 11), none, []⟩,
    ⟨some 21, .bin .geq (.tmp 20) (.const (.int .i64 0)), none, []⟩])
  (.cond (.tmp 21)
  .skip
  (.exit 0)))
  (.seq (.block 1 (.region [
    ⟨some 24, .move (.tmp 0), none, []⟩,
    ⟨some 25, .move (.tmp 11), none, []⟩,
    ⟨some 26, .move (.tmp 10), none, []⟩,
    ⟨some 27, .move (.tmp 8), none, []⟩,
    ⟨some 28, .move (.tmp 3), none, []⟩,
    ⟨some 29, .call 480 false (.const (.fn 53 [])) [(.tmp 24), (.tmp 25), (.tmp 26), (.tmp 27), (.tmp 28)], none, []⟩]))
  (.region [
    ⟨some 22, .move (.tmp 11), none, []⟩,
    ⟨some 23, .bin .sub (.tmp 22) (.const (.int .i64 1)), none, []⟩,
    ⟨some 11, .move (.tmp 23), none, []⟩])))
abbrev f43_l1 : ACode :=
  (.seq (.seq (.region [
    ⟨some 32, .move (.tmp 12), none, []⟩,
    ⟨some 33, .bin .geq (.tmp 32) (.const (.int .i64 0)), none, []⟩])
  (.cond (.tmp 33)
  .skip
  (.exit 2)))
  (.seq (.block 3 (.seq (.drawn [
    ⟨some 36, .move (.tmp 0), none, []⟩,
    ⟨some 37, .move (.tmp 8), none, []⟩,
    ⟨some 38, .move (.tmp 0), none, []⟩,
    ⟨some 39, .move (.tmp 8), none, []⟩,
    ⟨some 40, .move (.tmp 12), none, []⟩,
    ⟨some 41, .bin .add (.tmp 39) (.tmp 40), none, [3, 4]⟩,
    ⟨some 42, .move (.tmp 0), none, []⟩,
    ⟨some 43, .move (.tmp 8), none, []⟩,
    ⟨some 44, .move (.tmp 12), none, []⟩,
    ⟨some 45, .bin .add (.tmp 43) (.tmp 44), none, [7, 8]⟩,
    ⟨some 46, .indexAddr 5 (.tmp 42) (.tmp 45), none, [6, 9]⟩,
    ⟨some 47, .load true 5 (.tmp 46), none, [10]⟩,
    ⟨some 48, .move (.tmp 0), none, []⟩,
    ⟨some 49, .move (.tmp 8), none, []⟩,
    ⟨some 50, .indexAddr 5 (.tmp 48) (.tmp 49), none, [12, 13]⟩,
    ⟨some 51, .load true 5 (.tmp 50), none, [14]⟩,
    ⟨some 52, .indexAddr 5 (.tmp 36) (.tmp 37), none, [0, 1, 0, 1, 6, 7, 8, 9, 10, 11, 15]⟩,
    ⟨none, .store true 5 (.tmp 52) (.tmp 47), none, [16, 11, 0, 1, 6, 7, 8, 9, 10, 11, 15]⟩,
    ⟨some 53, .indexAddr 5 (.tmp 38) (.tmp 41), none, [2, 5, 0, 1, 2, 3, 4, 5, 6, 7, 8, 9, 10, 11, 12, 13, 14, 15, 16, 17]⟩,
    ⟨none, .store true 5 (.tmp 53) (.tmp 51), none, [18, 15, 17, 0, 1, 2, 3, 4, 5, 6, 7, 8, 9, 10, 11, 12, 13, 14, 15, 16, 17]⟩])
  (.region [
    ⟨some 54, .move (.tmp 0), none, []⟩,
    ⟨some 55, .move (.tmp 9), none, []⟩,
    ⟨some 56, .move (.tmp 12), none, []⟩,
    ⟨some 57, .move (.tmp 8), none, []⟩,
    ⟨some 58, .move (.tmp 3), none, []⟩,
    ⟨some 59, .call 960 false (.const (.fn 53 [])) [(.tmp 54), (.tmp 55), (.tmp 56), (.tmp 57), (.tmp 58)], none, []⟩])))
  (.region [
    ⟨some 34, .move (.tmp 12), none, []⟩,
    ⟨some 35, .bin .sub (.tmp 34) (.const (.int .i64 1)), none, []⟩,
    ⟨some 12, .move (.tmp 35), none, []⟩])))
def f43_b : ACode :=
  (.seq (.region [
    ⟨some 13, .move (.tmp 1), none, []⟩,
    ⟨some 8, .move (.tmp 13), none, []⟩])
  (.seq (.region [
    ⟨some 9, .move (.const (.int .i64 0)), none, []⟩])
  (.seq (.region [
    ⟨some 14, .move (.tmp 2), none, []⟩,
    ⟨some 15, .move (.tmp 1), none, []⟩,
    ⟨some 16, .bin .sub (.tmp 14) (.tmp 15), none, []⟩,
    ⟨some 10, .move (.tmp 16), none, []⟩])
  (.seq (.seq (.region [
    ⟨some 17, .move (.tmp 10), none, []⟩,
    ⟨some 18, .bin .sub (.tmp 17) (.const (.int .i64 1)), none, []⟩,
    ⟨some 19, .bin .quo (.tmp 18) (.const (.int .i64 2)), none, []⟩,
    ⟨some 11, .move (.tmp 19), none, []⟩])
  (.block 0 (.loop f43_l0)))
  (.seq (.region [
    ⟨some 30, .move (.tmp 10), none, []⟩,
    ⟨some 31, .bin .sub (.tmp 30) (.const (.int .i64 1)), none, []⟩,
    ⟨some 12, .move (.tmp 31), none, []⟩])
  (.block 2 (.loop f43_l1)))))))
def f43 : AFunc := ⟨4, 60, [some 5, none, none, none], [], f43_b⟩

/-! 44: slices.breakPatternsCmpFunc[hachure/api.Event] -/
abbrev f44_l0 : ACode :=
  (.seq (.seq (.region [
    ⟨some 28, .move (.tmp 11), none, []⟩,
    ⟨some 29, .move (.tmp 1), none, []⟩,
    ⟨some 30, .move (.tmp 8), none, []⟩,
    ⟨some 31, .bin .quo (.tmp 30) (.const (.int .i64 4)), none, []⟩,
    ⟨some 32, .bin .mul (.tmp 31) (.const (.int .i64 2)), none, []⟩,
    ⟨some 33, .bin .add (.tmp 29) (.tmp 32), none, []⟩,
    ⟨some 34, .bin .add (.tmp 33) (.const (.int .i64 1)), none, []⟩,
    ⟨some 35, .bin .leq (.tmp 28) (.tmp 34), none, []⟩])
  (.cond (.tmp 35)
  .skip
  (.exit 0)))
  (.seq (.block 1 (.seq (.region [
    ⟨some 38, .call 624 false (.const (.fn 55 [])) [(.tmp 9)], none, []⟩,
    ⟨some 39, .move (.tmp 10), none, []⟩,
    ⟨some 40, .bin .sub (.tmp 39) (.const (.int .u64 1)), none, []⟩,
    ⟨some 41, .bin .and (.tmp 38) (.tmp 40), none, []⟩,
    ⟨some 42, .convInt .i64 (.tmp 41), none, []⟩,
    ⟨some 12, .move (.tmp 42), none, []⟩])
  (.seq (.seq (.region [
    ⟨some 43, .move (.tmp 12), none, []⟩,
    ⟨some 44, .move (.tmp 8), none, []⟩,
    ⟨some 45, .bin .geq (.tmp 43) (.tmp 44), none, []⟩])
  (.cond (.tmp 45)
  (.region [
    ⟨some 46, .move (.tmp 12), none, []⟩,
    ⟨some 47, .move (.tmp 8), none, []⟩,
    ⟨some 48, .bin .sub (.tmp 46) (.tmp 47), none, []⟩,
    ⟨some 12, .move (.tmp 48), none, []⟩])
  .skip))
  (.drawn [
    ⟨some 49, .move (.tmp 0), none, []⟩,
    ⟨some 50, .move (.tmp 11), none, []⟩,
    ⟨some 51, .move (.tmp 0), none, []⟩,
    ⟨some 52, .move (.tmp 1), none, []⟩,
    ⟨some 53, .move (.tmp 12), none, []⟩,
    ⟨some 54, .bin .add (.tmp 52) (.tmp 53), none, [3, 4]⟩,
    ⟨some 55, .move (.tmp 0), none, []⟩,
    ⟨some 56, .move (.tmp 1), none, []⟩,
    ⟨some 57, .move (.tmp 12), none, []⟩,
    ⟨some 58, .bin .add (.tmp 56) (.tmp 57), none, [7, 8]⟩,
    ⟨some 59, .indexAddr 5 (.tmp 55) (.tmp 58), none, [6, 9]⟩,
    ⟨some 60, .load true 5 (.tmp 59), none, [10]⟩,
    ⟨some 61, .move (.tmp 0), none, []⟩,
    ⟨some 62, .move (.tmp 11), none, []⟩,
    ⟨some 63, .indexAddr 5 (.tmp 61) (.tmp 62), none, [12, 13]⟩,
    ⟨some 64, .load true 5 (.tmp 63), none, [14]⟩,
    ⟨some 65, .indexAddr 5 (.tmp 49) (.tmp 50), none, [0, 1, 0, 1, 6, 7, 8, 9, 10, 11, 15]⟩,
    ⟨none, .store true 5 (.tmp 65) (.tmp 60), none, [16, 11, 0, 1, 6, 7, 8, 9, 10, 11, 15]⟩,
    ⟨some 66, .indexAddr 5 (.tmp 51) (.tmp 54), none, [2, 5, 0, 1, 2, 3, 4, 5, 6, 7, 8, 9, 10, 11, 12, 13, 14, 15, 16, 17]⟩,
    ⟨none, .store true 5 (.tmp 66) (.tmp 64), none, [18, 15, 17, 0, 1, 2, 3, 4, 5, 6, 7, 8, 9, 10, 11, 12, 13, 14, 15, 16, 17]⟩]))))
  (.region [
    ⟨some 36, .move (.tmp 11), none, []⟩,
    ⟨some 37, .bin .add (.tmp 36) (.const (.int .i64 1)), none, []⟩,
    ⟨some 11, .move (.tmp 37), none, []⟩])))
def f44_b : ACode :=
  (.seq (.region [
    ⟨some 13, .move (.tmp 2), none, []⟩,
    ⟨some 14, .move (.tmp 1), none, []⟩,
    ⟨some 15, .bin .sub (.tmp 13) (.tmp 14), none, []⟩,
    ⟨some 8, .move (.tmp 15), none, []⟩])
  (.seq (.region [
    ⟨some 16, .move (.tmp 8), none, []⟩,
    ⟨some 17, .bin .geq (.tmp 16) (.const (.int .i64 8)), none, []⟩])
  (.cond (.tmp 17)
  (.seq (.region [
    ⟨some 18, .move (.tmp 8), none, []⟩,
    ⟨some 19, .convInt .u64 (.tmp 18), none, []⟩,
    ⟨some 9, .new 160 1 (.const (.int .u64 0)), none, []⟩,
    ⟨none, .store false 1 (.tmp 9) (.tmp 19), none, []⟩])
  (.seq (.region [
    ⟨some 20, .move (.tmp 8), none, []⟩,
    ⟨some 21, .call 352 false (.const (.fn 54 [])) [(.tmp 20)], none, []⟩,
    ⟨some 10, .move (.tmp 21), none, []⟩])
  (.seq (.region [
    ⟨some 22, .move (.tmp 1), none, []⟩,
    ⟨some 23, .move (.tmp 8), none, []⟩,
    ⟨some 24, .bin .quo (.tmp 23) (.const (.int .i64 4)), none, []⟩,
    ⟨some 25, .bin .mul (.tmp 24) (.const (.int .i64 2)), none, []⟩,
    ⟨some 26, .bin .add (.tmp 22) (.tmp 25), none, []⟩,
    ⟨some 27, .bin .sub (.tmp 26) (.const (.int .i64 1)), none, []⟩,
    ⟨some 11, .move (.tmp 27), none, []⟩])
  (.block 0 (.loop f44_l0)))))
  .skip)))
def f44 : AFunc := ⟨4, 67, [some 5, none, none, none], [], f44_b⟩

/-! 45: slices.choosePivotCmpFunc[hachure/api.Event] -/
def f45_b : ACode :=
  (.seq (.region [
    ⟨some 8, .move (.const (.int .i64 0)), none, []⟩,
    ⟨some 9, .move (.const (.int .i64 0)), none, []⟩])
  (.seq (.region [
    ⟨some 15, .move (.tmp 2), none, []⟩,
    ⟨some 16, .move (.tmp 1), none, []⟩,
    ⟨some 17, .bin .sub (.tmp 15) (.tmp 16), none, []⟩,
    ⟨some 10, .move (.tmp 17), none, []⟩])
  (.seq (.region [
    ⟨some 11, .new 192 1 (.const (.int .i64 0)), none, []⟩])
  (.seq (.region [
    ⟨some 18, .move (.tmp 1), none, []⟩,
    ⟨some 19, .move (.tmp 10), none, []⟩,
    ⟨some 20, .bin .quo (.tmp 19) (.const (.int .i64 4)), none, []⟩,
    ⟨some 21, .bin .mul (.tmp 20) (.const (.int .i64 1)), none, []⟩,
    ⟨some 22, .bin .add (.tmp 18) (.tmp 21), none, []⟩,
    ⟨some 12, .move (.tmp 22), none, []⟩])
  (.seq (.region [
    ⟨some 23, .move (.tmp 1), none, []⟩,
    ⟨some 24, .move (.tmp 10), none, []⟩,
    ⟨some 25, .bin .quo (.tmp 24) (.const (.int .i64 4)), none, []⟩,
    ⟨some 26, .bin .mul (.tmp 25) (.const (.int .i64 2)), none, []⟩,
    ⟨some 27, .bin .add (.tmp 23) (.tmp 26), none, []⟩,
    ⟨some 13, .move (.tmp 27), none, []⟩])
  (.seq (.region [
    ⟨some 28, .move (.tmp 1), none, []⟩,
    ⟨some 29, .move (.tmp 10), none, []⟩,
    ⟨some 30, .bin .quo (.tmp 29) (.const (.int .i64 4)), none, []⟩,
    ⟨some 31, .bin .mul (.tmp 30) (.const (.int .i64 3)), none, []⟩,
    ⟨some 32, .bin .add (.tmp 28) (.tmp 31), none, []⟩,
    ⟨some 14, .move (.tmp 32), none, []⟩])
  (.seq (.seq (.region [
    ⟨some 33, .move (.tmp 10), none, []⟩,
    ⟨some 34, .bin .geq (.tmp 33) (.const (.int .i64 8)), none, []⟩])
  (.cond (.tmp 34)
  (.seq (.seq (.region [
    ⟨some 35, .move (.tmp 10), none, []⟩,
    ⟨some 36, .bin .geq (.tmp 35) (.const (.int .i64 50)), none, []⟩])
  (.cond (.tmp 36)
  (.seq (.region [
    ⟨some 37, .move (.tmp 0), none, []⟩,
    ⟨some 38, .move (.tmp 12), none, []⟩,
    ⟨some 39, .move (.tmp 3), none, []⟩,
    ⟨some 40, .call 656 false (.const (.fn 56 [])) [(.tmp 37), (.tmp 38), (.tmp 11), (.tmp 39)], none, []⟩,
    ⟨some 12, .move (.tmp 40), none, []⟩])
  (.seq (.region [
    ⟨some 41, .move (.tmp 0), none, []⟩,
    ⟨some 42, .move (.tmp 13), none, []⟩,
    ⟨some 43, .move (.tmp 3), none, []⟩,
    ⟨some 44, .call 720 false (.const (.fn 56 [])) [(.tmp 41), (.tmp 42), (.tmp 11), (.tmp 43)], none, []⟩,
    ⟨some 13, .move (.tmp 44), none, []⟩])
  (.region [
    ⟨some 45, .move (.tmp 0), none, []⟩,
    ⟨some 46, .move (.tmp 14), none, []⟩,
    ⟨some 47, .move (.tmp 3), none, []⟩,
    ⟨some 48, .call 784 false (.const (.fn 56 [])) [(.tmp 45), (.tmp 46), (.tmp 11), (.tmp 47)], none, []⟩,
    ⟨some 14, .move (.tmp 48), none, []⟩])))
  .skip))
  (.region [
    ⟨some 49, .move (.tmp 0), none, []⟩,
    ⟨some 50, .move (.tmp 12), none, []⟩,
    ⟨some 51, .move (.tmp 13), none, []⟩,
    ⟨some 52, .move (.tmp 14), none, []⟩,
    ⟨some 53, .move (.tmp 3), none, []⟩,
    ⟨some 54, .call 880 false (.const (.fn 57 [])) [(.tmp 49), (.tmp 50), (.tmp 51), (.tmp 52), (.tmp 11), (.tmp 53)], none, []⟩,
    ⟨some 13, .move (.tmp 54), none, []⟩]))
  .skip))
  (.seq (.region [
    ⟨some 55, .load false 1 (.tmp 11), none, []⟩])
  (.block 0 (.seq (.region [
    ⟨some 58, .bin .eql (.tmp 55) (.const (.int .i64 0)), none, []⟩,
    ⟨some 57, .move (.tmp 58), none, []⟩])
  (.cond (.tmp 57)
  (.seq (.region [
    ⟨some 59, .move (.tmp 13), none, []⟩,
    ⟨some 8, .move (.tmp 59), none, []⟩,
    ⟨some 9, .move (.const (.int .i64 1)), none, []⟩])
  .ret)
  (.seq (.region [
    ⟨some 61, .bin .eql (.tmp 55) (.const (.int .i64 12)), none, []⟩,
    ⟨some 60, .move (.tmp 61), none, []⟩])
  (.cond (.tmp 60)
  (.seq (.region [
    ⟨some 62, .move (.tmp 13), none, []⟩,
    ⟨some 8, .move (.tmp 62), none, []⟩,
    ⟨some 9, .move (.const (.int .i64 2)), none, []⟩])
  .ret)
  (.seq (.region [
    ⟨some 56, .move (.tmp 13), none, []⟩,
    ⟨some 8, .move (.tmp 56), none, []⟩,
    ⟨some 9, .move (.const (.int .i64 0)), none, []⟩])
  .ret))))))))))))))
def f45 : AFunc := ⟨4, 63, [], [.tmp 8, .tmp 9], f45_b⟩

/-! 46: slices.reverseRangeCmpFunc[hachure/api.Event] -/
abbrev f46_l0 : ACode :=
  (.seq (.seq (.region [
    ⟨some 13, .move (.tmp 8), none, []⟩,
    ⟨some 14, .move (.tmp 9), none, []⟩,
    ⟨some 15, .bin .lss (.tmp 13) (.tmp 14), none, []⟩])
  (.cond (.tmp 15)
  .skip
  (.exit 0)))
  (.block 1 (.seq (.drawn [
    ⟨some 16, .move (.tmp 0), none, []⟩,
    ⟨some 17, .move (.tmp 8), none, []⟩,
    ⟨some 18, .move (.tmp 0), none, []⟩,
    ⟨some 19, .move (.tmp 9), none, []⟩,
    ⟨some 20, .move (.tmp 0), none, []⟩,
    ⟨some 21, .move (.tmp 9), none, []⟩,
    ⟨some 22, .indexAddr 5 (.tmp 20) (.tmp 21), none, [4, 5]⟩,
    ⟨some 23, .load true 5 (.tmp 22), none, [6]⟩,
    ⟨some 24, .move (.tmp 0), none, []⟩,
    ⟨some 25, .move (.tmp 8), none, []⟩,
    ⟨some 26, .indexAddr 5 (.tmp 24) (.tmp 25), none, [8, 9]⟩,
    ⟨some 27, .load true 5 (.tmp 26), none, [10]⟩,
    ⟨some 28, .indexAddr 5 (.tmp 16) (.tmp 17), none, [0, 1, 0, 1, 4, 5, 6, 7, 11]⟩,
    ⟨none, .store true 5 (.tmp 28) (.tmp 23), none, [12, 7, 0, 1, 4, 5, 6, 7, 11]⟩,
    ⟨some 29, .indexAddr 5 (.tmp 18) (.tmp 19), none, [2, 3, 0, 1, 2, 3, 4, 5, 6, 7, 8, 9, 10, 11, 12, 13]⟩,
    ⟨none, .store true 5 (.tmp 29) (.tmp 27), none, [14, 11, 13, 0, 1, 2, 3, 4, 5, 6, 7, 8, 9, 10, 11, 12, 13]⟩])
  (.seq (.region [
    ⟨some 30, .move (.tmp 8), none, []⟩,
    ⟨some 31, .bin .add (.tmp 30) (.const (.int .i64 1)), none, []⟩,
    ⟨some 8, .move (.tmp 31), none, []⟩])
  (.region [
    ⟨some 32, .move (.tmp 9), none, []⟩,
    ⟨some 33, .bin .sub (.tmp 32) (.const (.int .i64 1)), none, []⟩,
    ⟨some 9, .move (.tmp 33), none, []⟩])))))
def f46_b : ACode :=
  (.seq (.region [
    ⟨some 10, .move (.tmp 1), none, []⟩,
    ⟨some 8, .move (.tmp 10), none, []⟩])
  (.seq (.region [
    ⟨some 11, .move (.tmp 2), none, []⟩,
    ⟨some 12, .bin .sub (.tmp 11) (.const (.int .i64 1)), none, []⟩,
    ⟨some 9, .move (.tmp 12), none, []⟩])
  (.block 0 (.loop f46_l0))))
def f46 : AFunc := ⟨4, 34, [some 5, none, none, none], [], f46_b⟩

/-! 47: slices.partialInsertionSortCmpFunc[hachure/api.Event] -/
abbrev f47_l0 : ACode :=
  (.seq (.seq (.drawn [
    ⟨some 19, .move (.tmp 9), none, []⟩,
    ⟨some 20, .move (.tmp 2), none, []⟩,
    ⟨some 21, .bin .lss (.tmp 19) (.tmp 20), none, [0, 1]⟩,
    ⟨some 22, .move (.tmp 21), none, [2]⟩,
    ⟨some 23, .move (.tmp 3), some (22, true), [3]⟩,
    ⟨some 24, .move (.tmp 0), some (22, true), [3]⟩,
    ⟨some 25, .move (.tmp 9), some (22, true), [3]⟩,
    ⟨some 26, .indexAddr 5 (.tmp 24) (.tmp 25), some (22, true), [5, 6, 3]⟩,
    ⟨some 27, .load true 5 (.tmp 26), some (22, true), [7, 3]⟩,
    ⟨some 28, .move (.tmp 0), some (22, true), [3]⟩,
    ⟨some 29, .move (.tmp 9), some (22, true), [3]⟩,
    ⟨some 30, .bin .sub (.tmp 29) (.const (.int .i64 1)), some (22, true), [10, 3]⟩,
    ⟨some 31, .indexAddr 5 (.tmp 28) (.tmp 30), some (22, true), [9, 11, 3]⟩,
    ⟨some 32, .load true 5 (.tmp 31), some (22, true), [12, 3]⟩,
    ⟨some 33, .call 544 false (.tmp 23) [(.tmp 27), (.tmp 32)], some (22, true), [4, 8, 13, 3, 3]⟩,
    ⟨some 34, .bin .lss (.tmp 33) (.const (.int .i64 0)), some (22, true), [14, 3]⟩,
    ⟨some 35, .un .not (.tmp 34), some (22, true), [15, 3]⟩,
    ⟨some 36, .pick (.tmp 22) (.tmp 35) (.const (.bool false)), none, [3, 16]⟩])
  (.cond (.tmp 36)
  .skip
  (.exit 2)))
  (.block 3 (.region [
    ⟨some 37, .move (.tmp 9), none, []⟩,
    ⟨some 38, .bin .add (.tmp 37) (.const (.int .i64 1)), none, []⟩,
    ⟨some 9, .move (.tmp 38), none, []⟩])))
abbrev f47_l1 : ACode :=
  (.seq (.seq (.region [
    ⟨some 68, .move (.tmp 11), none, []⟩,
    ⟨some 69, .bin .geq (.tmp 68) (.const (.int .i64 1)), none, []⟩])
  (.cond (.tmp 69)
  .skip
  (.exit 4)))
  (.seq (.block 5 (.seq (.seq (.drawn [
    ⟨some 72, .move (.tmp 3), none, []⟩,
    ⟨some 73, .move (.tmp 0), none, []⟩,
    ⟨some 74, .move (.tmp 11), none, []⟩,
    ⟨some 75, .indexAddr 5 (.tmp 73) (.tmp 74), none, [1, 2]⟩,
    ⟨some 76, .load true 5 (.tmp 75), none, [3]⟩,
    ⟨some 77, .move (.tmp 0), none, []⟩,
    ⟨some 78, .move (.tmp 11), none, []⟩,
    ⟨some 79, .bin .sub (.tmp 78) (.const (.int .i64 1)), none, [6]⟩,
    ⟨some 80, .indexAddr 5 (.tmp 77) (.tmp 79), none, [5, 7]⟩,
    ⟨some 81, .load true 5 (.tmp 80), none, [8]⟩,
    ⟨some 82, .call 1328 false (.tmp 72) [(.tmp 76), (.tmp 81)], none, [0, 4, 9]⟩,
    ⟨some 83, .bin .lss (.tmp 82) (.const (.int .i64 0)), none, [10]⟩,
    ⟨some 84, .un .not (.tmp 83), none, [11]⟩])
  (.cond (.tmp 84)
  (.exit 4)
  .skip))
  (.drawn [
    ⟨some 85, .move (.tmp 0), none, []⟩,
    ⟨some 86, .move (.tmp 11), none, []⟩,
    ⟨some 87, .move (.tmp 0), none, []⟩,
    ⟨some 88, .move (.tmp 11), none, []⟩,
    ⟨some 89, .bin .sub (.tmp 88) (.const (.int .i64 1)), none, [3]⟩,
    ⟨some 90, .move (.tmp 0), none, []⟩,
    ⟨some 91, .move (.tmp 11), none, []⟩,
    ⟨some 92, .bin .sub (.tmp 91) (.const (.int .i64 1)), none, [6]⟩,
    ⟨some 93, .indexAddr 5 (.tmp 90) (.tmp 92), none, [5, 7]⟩,
    ⟨some 94, .load true 5 (.tmp 93), none, [8]⟩,
    ⟨some 95, .move (.tmp 0), none, []⟩,
    ⟨some 96, .move (.tmp 11), none, []⟩,
    ⟨some 97, .indexAddr 5 (.tmp 95) (.tmp 96), none, [10, 11]⟩,
    ⟨some 98, .load true 5 (.tmp 97), none, [12]⟩,
    ⟨some 99, .indexAddr 5 (.tmp 85) (.tmp 86), none, [0, 1, 0, 1, 5, 6, 7, 8, 9, 13]⟩,
    ⟨none, .store true 5 (.tmp 99) (.tmp 94), none, [14, 9, 0, 1, 5, 6, 7, 8, 9, 13]⟩,
    ⟨some 100, .indexAddr 5 (.tmp 87) (.tmp 89), none, [2, 4, 0, 1, 2, 3, 4, 5, 6, 7, 8, 9, 10, 11, 12, 13, 14, 15]⟩,
    ⟨none, .store true 5 (.tmp 100) (.tmp 98), none, [16, 13, 15, 0, 1, 2, 3, 4, 5, 6, 7, 8, 9, 10, 11, 12, 13, 14, 15]⟩])))
  (.region [
    ⟨some 70, .move (.tmp 11), none, []⟩,
    ⟨some 71, .bin .sub (.tmp 70) (.const (.int .i64 1)), none, []⟩,
    ⟨some 11, .move (.tmp 71), none, []⟩])))
abbrev f47_l2 : ACode :=
  (.seq (.seq (.region [
    ⟨some 107, .move (.tmp 12), none, []⟩,
    ⟨some 108, .move (.tmp 2), none, []⟩,
    ⟨some 109, .bin .lss (.tmp 107) (.tmp 108), none, []⟩])
  (.cond (.tmp 109)
  .skip
  (.exit 6)))
  (.seq (.block 7 (.seq (.seq (.drawn [
    ⟨some 112, .move (.tmp 3), none, []⟩,
    ⟨some 113, .move (.tmp 0), none, []⟩,
    ⟨some 114, .move (.tmp 12), none, []⟩,
    ⟨some 115, .indexAddr 5 (.tmp 113) (.tmp 114), none, [1, 2]⟩,
    ⟨some 116, .load true 5 (.tmp 115), none, [3]⟩,
    ⟨some 117, .move (.tmp 0), none, []⟩,
    ⟨some 118, .move (.tmp 12), none, []⟩,
    ⟨some 119, .bin .sub (.tmp 118) (.const (.int .i64 1)), none, [6]⟩,
    ⟨some 120, .indexAddr 5 (.tmp 117) (.tmp 119), none, [5, 7]⟩,
    ⟨some 121, .load true 5 (.tmp 120), none, [8]⟩,
    ⟨some 122, .call 1968 false (.tmp 112) [(.tmp 116), (.tmp 121)], none, [0, 4, 9]⟩,
    ⟨some 123, .bin .lss (.tmp 122) (.const (.int .i64 0)), none, [10]⟩,
    ⟨some 124, .un .not (.tmp 123), none, [11]⟩])
  (.cond (.tmp 124)
  (.exit 6)
  .skip))
  (.drawn [
    ⟨some 125, .move (.tmp 0), none, []⟩,
    ⟨some 126, .move (.tmp 12), none, []⟩,
    ⟨some 127, .move (.tmp 0), none, []⟩,
    ⟨some 128, .move (.tmp 12), none, []⟩,
    ⟨some 129, .bin .sub (.tmp 128) (.const (.int .i64 1)), none, [3]⟩,
    ⟨some 130, .move (.tmp 0), none, []⟩,
    ⟨some 131, .move (.tmp 12), none, []⟩,
    ⟨some 132, .bin .sub (.tmp 131) (.const (.int .i64 1)), none, [6]⟩,
    ⟨some 133, .indexAddr 5 (.tmp 130) (.tmp 132), none, [5, 7]⟩,
    ⟨some 134, .load true 5 (.tmp 133), none, [8]⟩,
    ⟨some 135, .move (.tmp 0), none, []⟩,
    ⟨some 136, .move (.tmp 12), none, []⟩,
    ⟨some 137, .indexAddr 5 (.tmp 135) (.tmp 136), none, [10, 11]⟩,
    ⟨some 138, .load true 5 (.tmp 137), none, [12]⟩,
    ⟨some 139, .indexAddr 5 (.tmp 125) (.tmp 126), none, [0, 1, 0, 1, 5, 6, 7, 8, 9, 13]⟩,
    ⟨none, .store true 5 (.tmp 139) (.tmp 134), none, [14, 9, 0, 1, 5, 6, 7, 8, 9, 13]⟩,
    ⟨some 140, .indexAddr 5 (.tmp 127) (.tmp 129), none, [2, 4, 0, 1, 2, 3, 4, 5, 6, 7, 8, 9, 10, 11, 12, 13, 14, 15]⟩,
    ⟨none, .store true 5 (.tmp 140) (.tmp 138), none, [16, 13, 15, 0, 1, 2, 3, 4, 5, 6, 7, 8, 9, 10, 11, 12, 13, 14, 15]⟩])))
  (.region [
    ⟨some 110, .move (.tmp 12), none, []⟩,
    ⟨some 111, .bin .add (.tmp 110) (.const (.int .i64 1)), none, []⟩,
    ⟨some 12, .move (.tmp 111), none, []⟩])))
abbrev f47_l3 : ACode :=
  (.seq (.seq (.region [
    ⟨some 15, .move (.tmp 10), none, []⟩,
    ⟨some 16, .bin .lss (.tmp 15) (.const (.int .i64 5)), none, []⟩])
  (.cond (.tmp 16)
  .skip
  (.exit 0)))
  (.seq (.block 1 (.seq (.block 2 (.loop f47_l0))
  (.seq (.seq (.region [
    ⟨some 39, .move (.tmp 9), none, []⟩,
    ⟨some 40, .move (.tmp 2), none, []⟩,
    ⟨some 41, .bin .eql (.tmp 39) (.tmp 40), none, []⟩])
  (.cond (.tmp 41)
  (.seq (.region [
    ⟨some 8, .move (.const (.bool true)), none, []⟩])
  .ret)
  .skip))
  (.seq (.seq (.region [
    ⟨some 42, .move (.tmp 2), none, []⟩,
    ⟨some 43, .move (.tmp 1), none, []⟩,
    ⟨some 44, .bin .sub (.tmp 42) (.tmp 43), none, []⟩,
    ⟨some 45, .bin .lss (.tmp 44) (.const (.int .i64 50)), none, []⟩])
  (.cond (.tmp 45)
  (.seq (.region [
    ⟨some 8, .move (.const (.bool false)), none, []⟩])
  .ret)
  .skip))
  (.seq (.drawn [
    ⟨some 46, .move (.tmp 0), none, []⟩,
    ⟨some 47, .move (.tmp 9), none, []⟩,
    ⟨some 48, .move (.tmp 0), none, []⟩,
    ⟨some 49, .move (.tmp 9), none, []⟩,
    ⟨some 50, .bin .sub (.tmp 49) (.const (.int .i64 1)), none, [3]⟩,
    ⟨some 51, .move (.tmp 0), none, []⟩,
    ⟨some 52, .move (.tmp 9), none, []⟩,
    ⟨some 53, .bin .sub (.tmp 52) (.const (.int .i64 1)), none, [6]⟩,
    ⟨some 54, .indexAddr 5 (.tmp 51) (.tmp 53), none, [5, 7]⟩,
    ⟨some 55, .load true 5 (.tmp 54), none, [8]⟩,
    ⟨some 56, .move (.tmp 0), none, []⟩,
    ⟨some 57, .move (.tmp 9), none, []⟩,
    ⟨some 58, .indexAddr 5 (.tmp 56) (.tmp 57), none, [10, 11]⟩,
    ⟨some 59, .load true 5 (.tmp 58), none, [12]⟩,
    ⟨some 60, .indexAddr 5 (.tmp 46) (.tmp 47), none, [0, 1, 0, 1, 5, 6, 7, 8, 9, 13]⟩,
    ⟨none, .store true 5 (.tmp 60) (.tmp 55), none, [14, 9, 0, 1, 5, 6, 7, 8, 9, 13]⟩,
    ⟨some 61, .indexAddr 5 (.tmp 48) (.tmp 50), none, [2, 4, 0, 1, 2, 3, 4, 5, 6, 7, 8, 9, 10, 11, 12, 13, 14, 15]⟩,
    ⟨none, .store true 5 (.tmp 61) (.tmp 59), none, [16, 13, 15, 0, 1, 2, 3, 4, 5, 6, 7, 8, 9, 10, 11, 12, 13, 14, 15]⟩])
  (.seq (.seq (.region [
    ⟨some 62, .move (.tmp 9), none, []⟩,
    ⟨some 63, .move (.tmp 1), none, []⟩,
    ⟨some 64, .bin .sub (.tmp 62) (.tmp 63), none, []⟩,
    ⟨some 65, .bin .geq (.tmp 64) (.const (.int .i64 2)), none, []⟩])
  (.cond (.tmp 65)
  (.seq (.region [
    ⟨some 66, .move (.tmp 9), none, []⟩,
    ⟨some 67, .bin .sub (.tmp 66) (.const (.int .i64 1)), none, []⟩,
    ⟨some 11, .move (.tmp 67), none, []⟩])
  (.block 4 (.loop f47_l1)))
  .skip))
  (.seq (.region [
    ⟨some 101, .move (.tmp 2), none, []⟩,
    ⟨some 102, .move (.tmp 9), none, []⟩,
    ⟨some 103, .bin .sub (.tmp 101) (.tmp 102), none, []⟩,
    ⟨some 104, .bin .geq (.tmp 103) (.const (.int .i64 2)), none, []⟩])
  (.cond (.tmp 104)
  (.seq (.region [
    ⟨some 105, .move (.tmp 9), none, []⟩,
    ⟨some 106, .bin .add (.tmp 105) (.const (.int .i64 1)), none, []⟩,
    ⟨some 12, .move (.tmp 106), none, []⟩])
  (.block 6 (.loop f47_l2)))
  .skip))))))))
  (.region [
    ⟨some 17, .move (.tmp 10), none, []⟩,
    ⟨some 18, .bin .add (.tmp 17) (.const (.int .i64 1)), none, []⟩,
    ⟨some 10, .move (.tmp 18), none, []⟩])))
def f47_b : ACode :=
  (.seq (.region [
    ⟨some 8, .move (.const (.bool false)), none, []⟩])
  (.seq (.region [
    ⟨some 13, .move (.tmp 1), none, []⟩,
    ⟨some 14, .bin .add (.tmp 13) (.const (.int .i64 1)), none, []⟩,
    ⟨some 9, .move (.tmp 14), none, []⟩])
  (.seq (.seq (.region [
    ⟨some 10, .move (.const (.int .i64 0)), none, []⟩])
  (.block 0 (.loop f47_l3)))
  (.seq (.region [
    ⟨some 8, .move (.const (.bool false)), none, []⟩])
  .ret))))
def f47 : AFunc := ⟨4, 141, [some 5, none, none, none], [.tmp 8], f47_b⟩

/-! 48: slices.partitionEqualCmpFunc[hachure/api.Event] -/
abbrev f48_l0 : ACode :=
  (.seq (.seq (.drawn [
    ⟨some 31, .move (.tmp 11), none, []⟩,
    ⟨some 32, .move (.tmp 12), none, []⟩,
    ⟨some 33, .bin .leq (.tmp 31) (.tmp 32), none, [0, 1]⟩,
    ⟨some 34, .move (.tmp 33), none, [2]⟩,
    ⟨some 35, .move (.tmp 4), some (34, true), [3]⟩,
    ⟨some 36, .move (.tmp 0), some (34, true), [3]⟩,
    ⟨some 37, .move (.tmp 1), some (34, true), [3]⟩,
    ⟨some 38, .indexAddr 5 (.tmp 36) (.tmp 37), some (34, true), [5, 6, 3]⟩,
    ⟨some 39, .load true 5 (.tmp 38), some (34, true), [7, 3]⟩,
    ⟨some 40, .move (.tmp 0), some (34, true), [3]⟩,
    ⟨some 41, .move (.tmp 11), some (34, true), [3]⟩,
    ⟨some 42, .indexAddr 5 (.tmp 40) (.tmp 41), some (34, true), [9, 10, 3]⟩,
    ⟨some 43, .load true 5 (.tmp 42), some (34, true), [11, 3]⟩,
    ⟨some 44, .call 720 false (.tmp 35) [(.tmp 39), (.tmp 43)], some (34, true), [4, 8, 12, 3, 3]⟩,
    ⟨some 45, .bin .lss (.tmp 44) (.const (.int .i64 0)), some (34, true), [13, 3]⟩,
    ⟨some 46, .un .not (.tmp 45), some (34, true), [14, 3]⟩,
    ⟨some 47, .pick (.tmp 34) (.tmp 46) (.const (.bool false)), none, [3, 15]⟩])
  (.cond (.tmp 47)
  .skip
  (.exit 2)))
  (.block 3 (.region [
    ⟨some 48, .move (.tmp 11), none, []⟩,
    ⟨some 49, .bin .add (.tmp 48) (.const (.int .i64 1)), none, []⟩,
    ⟨some 11, .move (.tmp 49), none, []⟩])))
abbrev f48_l1 : ACode :=
  (.seq (.seq (.drawn [
    ⟨some 50, .move (.tmp 11), none, []⟩,
    ⟨some 51, .move (.tmp 12), none, []⟩,
    ⟨some 52, .bin .leq (.tmp 50) (.tmp 51), none, [0, 1]⟩,
    ⟨some 53, .move (.tmp 52), none, [2]⟩,
    ⟨some 54, .move (.tmp 4), some (53, true), [3]⟩,
    ⟨some 55, .move (.tmp 0), some (53, true), [3]⟩,
    ⟨some 56, .move (.tmp 1), some (53, true), [3]⟩,
    ⟨some 57, .indexAddr 5 (.tmp 55) (.tmp 56), some (53, true), [5, 6, 3]⟩,
    ⟨some 58, .load true 5 (.tmp 57), some (53, true), [7, 3]⟩,
    ⟨some 59, .move (.tmp 0), some (53, true), [3]⟩,
    ⟨some 60, .move (.tmp 12), some (53, true), [3]⟩,
    ⟨some 61, .indexAddr 5 (.tmp 59) (.tmp 60), some (53, true), [9, 10, 3]⟩,
    ⟨some 62, .load true 5 (.tmp 61), some (53, true), [11, 3]⟩,
    ⟨some 63, .call 1024 false (.tmp 54) [(.tmp 58), (.tmp 62)], some (53, true), [4, 8, 12, 3, 3]⟩,
    ⟨some 64, .bin .lss (.tmp 63) (.const (.int .i64 0)), some (53, true), [13, 3]⟩,
    ⟨some 65, .pick (.tmp 53) (.tmp 64) (.const (.bool false)), none, [3, 14]⟩])
  (.cond (.tmp 65)
  .skip
  (.exit 4)))
  (.block 5 (.region [
    ⟨some 66, .move (.tmp 12), none, []⟩,
    ⟨some 67, .bin .sub (.tmp 66) (.const (.int .i64 1)), none, []⟩,
    ⟨some 12, .move (.tmp 67), none, []⟩])))
abbrev f48_l2 : ACode :=
  (.block 1 (.seq (.block 2 (.loop f48_l0))
  (.seq (.block 4 (.loop f48_l1))
  (.seq (.seq (.region [
    ⟨some 68, .move (.tmp 11), none, []⟩,
    ⟨some 69, .move (.tmp 12), none, []⟩,
    ⟨some 70, .bin .gtr (.tmp 68) (.tmp 69), none, []⟩])
  (.cond (.tmp 70)
  (.exit 0)
  .skip))
  (.seq (.drawn [
    ⟨some 71, .move (.tmp 0), none, []⟩,
    ⟨some 72, .move (.tmp 11), none, []⟩,
    ⟨some 73, .move (.tmp 0), none, []⟩,
    ⟨some 74, .move (.tmp 12), none, []⟩,
    ⟨some 75, .move (.tmp 0), none, []⟩,
    ⟨some 76, .move (.tmp 12), none, []⟩,
    ⟨some 77, .indexAddr 5 (.tmp 75) (.tmp 76), none, [4, 5]⟩,
    ⟨some 78, .load true 5 (.tmp 77), none, [6]⟩,
    ⟨some 79, .move (.tmp 0), none, []⟩,
    ⟨some 80, .move (.tmp 11), none, []⟩,
    ⟨some 81, .indexAddr 5 (.tmp 79) (.tmp 80), none, [8, 9]⟩,
    ⟨some 82, .load true 5 (.tmp 81), none, [10]⟩,
    ⟨some 83, .indexAddr 5 (.tmp 71) (.tmp 72), none, [0, 1, 0, 1, 4, 5, 6, 7, 11]⟩,
    ⟨none, .store true 5 (.tmp 83) (.tmp 78), none, [12, 7, 0, 1, 4, 5, 6, 7, 11]⟩,
    ⟨some 84, .indexAddr 5 (.tmp 73) (.tmp 74), none, [2, 3, 0, 1, 2, 3, 4, 5, 6, 7, 8, 9, 10, 11, 12, 13]⟩,
    ⟨none, .store true 5 (.tmp 84) (.tmp 82), none, [14, 11, 13, 0, 1, 2, 3, 4, 5, 6, 7, 8, 9, 10, 11, 12, 13]⟩])
  (.seq (.region [
    ⟨some 85, .move (.tmp 11), none, []⟩,
    ⟨some 86, .bin .add (.tmp 85) (.const (.int .i64 1)), none, []⟩,
    ⟨some 11, .move (.tmp 86), none, []⟩])
  (.region [
    ⟨some 87, .move (.tmp 12), none, []⟩,
    ⟨some 88, .bin .sub (.tmp 87) (.const (.int .i64 1)), none, []⟩,
    ⟨some 12, .move (.tmp 88), none, []⟩])))))))
def f48_b : ACode :=
  (.seq (.region [
    ⟨some 10, .move (.const (.int .i64 0)), none, []⟩])
  (.seq (.drawn [
    ⟨some 13, .move (.tmp 0), none, []⟩,
    ⟨some 14, .move (.tmp 1), none, []⟩,
    ⟨some 15, .move (.tmp 0), none, []⟩,
    ⟨some 16, .move (.tmp 3), none, []⟩,
    ⟨some 17, .move (.tmp 0), none, []⟩,
    ⟨some 18, .move (.tmp 3), none, []⟩,
    ⟨some 19, .indexAddr 5 (.tmp 17) (.tmp 18), none, [4, 5]⟩,
    ⟨some 20, .load true 5 (.tmp 19), none, [6]⟩,
    ⟨some 21, .move (.tmp 0), none, []⟩,
    ⟨some 22, .move (.tmp 1), none, []⟩,
    ⟨some 23, .indexAddr 5 (.tmp 21) (.tmp 22), none, [8, 9]⟩,
    ⟨some 24, .load true 5 (.tmp 23), none, [10]⟩,
    ⟨some 25, .indexAddr 5 (.tmp 13) (.tmp 14), none, [0, 1, 0, 1, 4, 5, 6, 7, 11]⟩,
    ⟨none, .store true 5 (.tmp 25) (.tmp 20), none, [12, 7, 0, 1, 4, 5, 6, 7, 11]⟩,
    ⟨some 26, .indexAddr 5 (.tmp 15) (.tmp 16), none, [2, 3, 0, 1, 2, 3, 4, 5, 6, 7, 8, 9, 10, 11, 12, 13]⟩,
    ⟨none, .store true 5 (.tmp 26) (.tmp 24), none, [14, 11, 13, 0, 1, 2, 3, 4, 5, 6, 7, 8, 9, 10, 11, 12, 13]⟩])
  (.seq (.region [
    ⟨some 27, .move (.tmp 1), none, []⟩,
    ⟨some 28, .bin .add (.tmp 27) (.const (.int .i64 1)), none, []⟩,
    ⟨some 29, .move (.tmp 2), none, []⟩,
    ⟨some 30, .bin .sub (.tmp 29) (.const (.int .i64 1)), none, []⟩,
    ⟨some 11, .move (.tmp 28), none, []⟩,
    ⟨some 12, .move (.tmp 30), none, []⟩])
  (.seq (.block 0 (.loop f48_l2))
  (.seq (.region [
    ⟨some 89, .move (.tmp 11), none, []⟩,
    ⟨some 10, .move (.tmp 89), none, []⟩])
  .ret)))))
def f48 : AFunc := ⟨5, 90, [some 5, none, none, none, none], [.tmp 10], f48_b⟩

/-! 49: slices.partitionCmpFunc[hachure/api.Event] -/
abbrev f49_l0 : ACode :=
  (.seq (.seq (.drawn [
    ⟨some 32, .move (.tmp 12), none, []⟩,
    ⟨some 33, .move (.tmp 13), none, []⟩,
    ⟨some 34, .bin .leq (.tmp 32) (.tmp 33), none, [0, 1]⟩,
    ⟨some 35, .move (.tmp 34), none, [2]⟩,
    ⟨some 36, .move (.tmp 4), some (35, true), [3]⟩,
    ⟨some 37, .move (.tmp 0), some (35, true), [3]⟩,
    ⟨some 38, .move (.tmp 12), some (35, true), [3]⟩,
    ⟨some 39, .indexAddr 5 (.tmp 37) (.tmp 38), some (35, true), [5, 6, 3]⟩,
    ⟨some 40, .load true 5 (.tmp 39), some (35, true), [7, 3]⟩,
    ⟨some 41, .move (.tmp 0), some (35, true), [3]⟩,
    ⟨some 42, .move (.tmp 1), some (35, true), [3]⟩,
    ⟨some 43, .indexAddr 5 (.tmp 41) (.tmp 42), some (35, true), [9, 10, 3]⟩,
    ⟨some 44, .load true 5 (.tmp 43), some (35, true), [11, 3]⟩,
    ⟨some 45, .call 736 false (.tmp 36) [(.tmp 40), (.tmp 44)], some (35, true), [4, 8, 12, 3, 3]⟩,
    ⟨some 46, .bin .lss (.tmp 45) (.const (.int .i64 0)), some (35, true), [13, 3]⟩,
    ⟨some 47, .pick (.tmp 35) (.tmp 46) (.const (.bool false)), none, [3, 14]⟩])
  (.cond (.tmp 47)
  .skip
  (.exit 0)))
  (.block 1 (.region [
    ⟨some 48, .move (.tmp 12), none, []⟩,
    ⟨some 49, .bin .add (.tmp 48) (.const (.int .i64 1)), none, []⟩,
    ⟨some 12, .move (.tmp 49), none, []⟩])))
abbrev f49_l1 : ACode :=
  (.seq (.seq (.drawn [
    ⟨some 50, .move (.tmp 12), none, []⟩,
    ⟨some 51, .move (.tmp 13), none, []⟩,
    ⟨some 52, .bin .leq (.tmp 50) (.tmp 51), none, [0, 1]⟩,
    ⟨some 53, .move (.tmp 52), none, [2]⟩,
    ⟨some 54, .move (.tmp 4), some (53, true), [3]⟩,
    ⟨some 55, .move (.tmp 0), some (53, true), [3]⟩,
    ⟨some 56, .move (.tmp 13), some (53, true), [3]⟩,
    ⟨some 57, .indexAddr 5 (.tmp 55) (.tmp 56), some (53, true), [5, 6, 3]⟩,
    ⟨some 58, .load true 5 (.tmp 57), some (53, true), [7, 3]⟩,
    ⟨some 59, .move (.tmp 0), some (53, true), [3]⟩,
    ⟨some 60, .move (.tmp 1), some (53, true), [3]⟩,
    ⟨some 61, .indexAddr 5 (.tmp 59) (.tmp 60), some (53, true), [9, 10, 3]⟩,
    ⟨some 62, .load true 5 (.tmp 61), some (53, true), [11, 3]⟩,
    ⟨some 63, .call 1024 false (.tmp 54) [(.tmp 58), (.tmp 62)], some (53, true), [4, 8, 12, 3, 3]⟩,
    ⟨some 64, .bin .lss (.tmp 63) (.const (.int .i64 0)), some (53, true), [13, 3]⟩,
    ⟨some 65, .un .not (.tmp 64), some (53, true), [14, 3]⟩,
    ⟨some 66, .pick (.tmp 53) (.tmp 65) (.const (.bool false)), none, [3, 15]⟩])
  (.cond (.tmp 66)
  .skip
  (.exit 2)))
  (.block 3 (.region [
    ⟨some 67, .move (.tmp 13), none, []⟩,
    ⟨some 68, .bin .sub (.tmp 67) (.const (.int .i64 1)), none, []⟩,
    ⟨some 13, .move (.tmp 68), none, []⟩])))
abbrev f49_l2 : ACode :=
  (.seq (.seq (.drawn [
    ⟨some 105, .move (.tmp 12), none, []⟩,
    ⟨some 106, .move (.tmp 13), none, []⟩,
    ⟨some 107, .bin .leq (.tmp 105) (.tmp 106), none, [0, 1]⟩,
    ⟨some 108, .move (.tmp 107), none, [2]⟩,
    ⟨some 109, .move (.tmp 4), some (108, true), [3]⟩,
    ⟨some 110, .move (.tmp 0), some (108, true), [3]⟩,
    ⟨some 111, .move (.tmp 12), some (108, true), [3]⟩,
    ⟨some 112, .indexAddr 5 (.tmp 110) (.tmp 111), some (108, true), [5, 6, 3]⟩,
    ⟨some 113, .load true 5 (.tmp 112), some (108, true), [7, 3]⟩,
    ⟨some 114, .move (.tmp 0), some (108, true), [3]⟩,
    ⟨some 115, .move (.tmp 1), some (108, true), [3]⟩,
    ⟨some 116, .indexAddr 5 (.tmp 114) (.tmp 115), some (108, true), [9, 10, 3]⟩,
    ⟨some 117, .load true 5 (.tmp 116), some (108, true), [11, 3]⟩,
    ⟨some 118, .call 1904 false (.tmp 109) [(.tmp 113), (.tmp 117)], some (108, true), [4, 8, 12, 3, 3]⟩,
    ⟨some 119, .bin .lss (.tmp 118) (.const (.int .i64 0)), some (108, true), [13, 3]⟩,
    ⟨some 120, .pick (.tmp 108) (.tmp 119) (.const (.bool false)), none, [3, 14]⟩])
  (.cond (.tmp 120)
  .skip
  (.exit 6)))
  (.block 7 (.region [
    ⟨some 121, .move (.tmp 12), none, []⟩,
    ⟨some 122, .bin .add (.tmp 121) (.const (.int .i64 1)), none, []⟩,
    ⟨some 12, .move (.tmp 122), none, []⟩])))
abbrev f49_l3 : ACode :=
  (.seq (.seq (.drawn [
    ⟨some 123, .move (.tmp 12), none, []⟩,
    ⟨some 124, .move (.tmp 13), none, []⟩,
    ⟨some 125, .bin .leq (.tmp 123) (.tmp 124), none, [0, 1]⟩,
    ⟨some 126, .move (.tmp 125), none, [2]⟩,
    ⟨some 127, .move (.tmp 4), some (126, true), [3]⟩,
    ⟨some 128, .move (.tmp 0), some (126, true), [3]⟩,
    ⟨some 129, .move (.tmp 13), some (126, true), [3]⟩,
    ⟨some 130, .indexAddr 5 (.tmp 128) (.tmp 129), some (126, true), [5, 6, 3]⟩,
    ⟨some 131, .load true 5 (.tmp 130), some (126, true), [7, 3]⟩,
    ⟨some 132, .move (.tmp 0), some (126, true), [3]⟩,
    ⟨some 133, .move (.tmp 1), some (126, true), [3]⟩,
    ⟨some 134, .indexAddr 5 (.tmp 132) (.tmp 133), some (126, true), [9, 10, 3]⟩,
    ⟨some 135, .load true 5 (.tmp 134), some (126, true), [11, 3]⟩,
    ⟨some 136, .call 2192 false (.tmp 127) [(.tmp 131), (.tmp 135)], some (126, true), [4, 8, 12, 3, 3]⟩,
    ⟨some 137, .bin .lss (.tmp 136) (.const (.int .i64 0)), some (126, true), [13, 3]⟩,
    ⟨some 138, .un .not (.tmp 137), some (126, true), [14, 3]⟩,
    ⟨some 139, .pick (.tmp 126) (.tmp 138) (.const (.bool false)), none, [3, 15]⟩])
  (.cond (.tmp 139)
  .skip
  (.exit 8)))
  (.block 9 (.region [
    ⟨some 140, .move (.tmp 13), none, []⟩,
    ⟨some 141, .bin .sub (.tmp 140) (.const (.int .i64 1)), none, []⟩,
    ⟨some 13, .move (.tmp 141), none, []⟩])))
abbrev f49_l4 : ACode :=
  (.block 5 (.seq (.block 6 (.loop f49_l2))
  (.seq (.block 8 (.loop f49_l3))
  (.seq (.seq (.region [
    ⟨some 142, .move (.tmp 12), none, []⟩,
    ⟨some 143, .move (.tmp 13), none, []⟩,
    ⟨some 144, .bin .gtr (.tmp 142) (.tmp 143), none, []⟩])
  (.cond (.tmp 144)
  (.exit 4)
  .skip))
  (.seq (.drawn [
    ⟨some 145, .move (.tmp 0), none, []⟩,
    ⟨some 146, .move (.tmp 12), none, []⟩,
    ⟨some 147, .move (.tmp 0), none, []⟩,
    ⟨some 148, .move (.tmp 13), none, []⟩,
    ⟨some 149, .move (.tmp 0), none, []⟩,
    ⟨some 150, .move (.tmp 13), none, []⟩,
    ⟨some 151, .indexAddr 5 (.tmp 149) (.tmp 150), none, [4, 5]⟩,
    ⟨some 152, .load true 5 (.tmp 151), none, [6]⟩,
    ⟨some 153, .move (.tmp 0), none, []⟩,
    ⟨some 154, .move (.tmp 12), none, []⟩,
    ⟨some 155, .indexAddr 5 (.tmp 153) (.tmp 154), none, [8, 9]⟩,
    ⟨some 156, .load true 5 (.tmp 155), none, [10]⟩,
    ⟨some 157, .indexAddr 5 (.tmp 145) (.tmp 146), none, [0, 1, 0, 1, 4, 5, 6, 7, 11]⟩,
    ⟨none, .store true 5 (.tmp 157) (.tmp 152), none, [12, 7, 0, 1, 4, 5, 6, 7, 11]⟩,
    ⟨some 158, .indexAddr 5 (.tmp 147) (.tmp 148), none, [2, 3, 0, 1, 2, 3, 4, 5, 6, 7, 8, 9, 10, 11, 12, 13]⟩,
    ⟨none, .store true 5 (.tmp 158) (.tmp 156), none, [14, 11, 13, 0, 1, 2, 3, 4, 5, 6, 7, 8, 9, 10, 11, 12, 13]⟩])
  (.seq (.region [
    ⟨some 159, .move (.tmp 12), none, []⟩,
    ⟨some 160, .bin .add (.tmp 159) (.const (.int .i64 1)), none, []⟩,
    ⟨some 12, .move (.tmp 160), none, []⟩])
  (.region [
    ⟨some 161, .move (.tmp 13), none, []⟩,
    ⟨some 162, .bin .sub (.tmp 161) (.const (.int .i64 1)), none, []⟩,
    ⟨some 13, .move (.tmp 162), none, []⟩])))))))
def f49_b : ACode :=
  (.seq (.region [
    ⟨some 10, .move (.const (.int .i64 0)), none, []⟩,
    ⟨some 11, .move (.const (.bool false)), none, []⟩])
  (.seq (.drawn [
    ⟨some 14, .move (.tmp 0), none, []⟩,
    ⟨some 15, .move (.tmp 1), none, []⟩,
    ⟨some 16, .move (.tmp 0), none, []⟩,
    ⟨some 17, .move (.tmp 3), none, []⟩,
    ⟨some 18, .move (.tmp 0), none, []⟩,
    ⟨some 19, .move (.tmp 3), none, []⟩,
    ⟨some 20, .indexAddr 5 (.tmp 18) (.tmp 19), none, [4, 5]⟩,
    ⟨some 21, .load true 5 (.tmp 20), none, [6]⟩,
    ⟨some 22, .move (.tmp 0), none, []⟩,
    ⟨some 23, .move (.tmp 1), none, []⟩,
    ⟨some 24, .indexAddr 5 (.tmp 22) (.tmp 23), none, [8, 9]⟩,
    ⟨some 25, .load true 5 (.tmp 24), none, [10]⟩,
    ⟨some 26, .indexAddr 5 (.tmp 14) (.tmp 15), none, [0, 1, 0, 1, 4, 5, 6, 7, 11]⟩,
    ⟨none, .store true 5 (.tmp 26) (.tmp 21), none, [12, 7, 0, 1, 4, 5, 6, 7, 11]⟩,
    ⟨some 27, .indexAddr 5 (.tmp 16) (.tmp 17), none, [2, 3, 0, 1, 2, 3, 4, 5, 6, 7, 8, 9, 10, 11, 12, 13]⟩,
    ⟨none, .store true 5 (.tmp 27) (.tmp 25), none, [14, 11, 13, 0, 1, 2, 3, 4, 5, 6, 7, 8, 9, 10, 11, 12, 13]⟩])
  (.seq (.region [
    ⟨some 28, .move (.tmp 1), none, []⟩,
    ⟨some 29, .bin .add (.tmp 28) (.const (.int .i64 1)), none, []⟩,
    ⟨some 30, .move (.tmp 2), none, []⟩,
    ⟨some 31, .bin .sub (.tmp 30) (.const (.int .i64 1)), none, []⟩,
    ⟨some 12, .move (.tmp 29), none, []⟩,
    ⟨some 13, .move (.tmp 31), none, []⟩])
  (.seq (.block 0 (.loop f49_l0))
  (.seq (.block 2 (.loop f49_l1))
  (.seq (.seq (.region [
    ⟨some 69, .move (.tmp 12), none, []⟩,
    ⟨some 70, .move (.tmp 13), none, []⟩,
    ⟨some 71, .bin .gtr (.tmp 69) (.tmp 70), none, []⟩])
  (.cond (.tmp 71)
  (.seq (.drawn [
    ⟨some 72, .move (.tmp 0), none, []⟩,
    ⟨some 73, .move (.tmp 13), none, []⟩,
    ⟨some 74, .move (.tmp 0), none, []⟩,
    ⟨some 75, .move (.tmp 1), none, []⟩,
    ⟨some 76, .move (.tmp 0), none, []⟩,
    ⟨some 77, .move (.tmp 1), none, []⟩,
    ⟨some 78, .indexAddr 5 (.tmp 76) (.tmp 77), none, [4, 5]⟩,
    ⟨some 79, .load true 5 (.tmp 78), none, [6]⟩,
    ⟨some 80, .move (.tmp 0), none, []⟩,
    ⟨some 81, .move (.tmp 13), none, []⟩,
    ⟨some 82, .indexAddr 5 (.tmp 80) (.tmp 81), none, [8, 9]⟩,
    ⟨some 83, .load true 5 (.tmp 82), none, [10]⟩,
    ⟨some 84, .indexAddr 5 (.tmp 72) (.tmp 73), none, [0, 1, 0, 1, 4, 5, 6, 7, 11]⟩,
    ⟨none, .store true 5 (.tmp 84) (.tmp 79), none, [12, 7, 0, 1, 4, 5, 6, 7, 11]⟩,
    ⟨some 85, .indexAddr 5 (.tmp 74) (.tmp 75), none, [2, 3, 0, 1, 2, 3, 4, 5, 6, 7, 8, 9, 10, 11, 12, 13]⟩,
    ⟨none, .store true 5 (.tmp 85) (.tmp 83), none, [14, 11, 13, 0, 1, 2, 3, 4, 5, 6, 7, 8, 9, 10, 11, 12, 13]⟩])
  (.seq (.region [
    ⟨some 86, .move (.tmp 13), none, []⟩,
    ⟨some 10, .move (.tmp 86), none, []⟩,
    ⟨some 11, .move (.const (.bool true)), none, []⟩])
  .ret))
  .skip))
  (.seq (.drawn [
    ⟨some 87, .move (.tmp 0), none, []⟩,
    ⟨some 88, .move (.tmp 12), none, []⟩,
    ⟨some 89, .move (.tmp 0), none, []⟩,
    ⟨some 90, .move (.tmp 13), none, []⟩,
    ⟨some 91, .move (.tmp 0), none, []⟩,
    ⟨some 92, .move (.tmp 13), none, []⟩,
    ⟨some 93, .indexAddr 5 (.tmp 91) (.tmp 92), none, [4, 5]⟩,
    ⟨some 94, .load true 5 (.tmp 93), none, [6]⟩,
    ⟨some 95, .move (.tmp 0), none, []⟩,
    ⟨some 96, .move (.tmp 12), none, []⟩,
    ⟨some 97, .indexAddr 5 (.tmp 95) (.tmp 96), none, [8, 9]⟩,
    ⟨some 98, .load true 5 (.tmp 97), none, [10]⟩,
    ⟨some 99, .indexAddr 5 (.tmp 87) (.tmp 88), none, [0, 1, 0, 1, 4, 5, 6, 7, 11]⟩,
    ⟨none, .store true 5 (.tmp 99) (.tmp 94), none, [12, 7, 0, 1, 4, 5, 6, 7, 11]⟩,
    ⟨some 100, .indexAddr 5 (.tmp 89) (.tmp 90), none, [2, 3, 0, 1, 2, 3, 4, 5, 6, 7, 8, 9, 10, 11, 12, 13]⟩,
    ⟨none, .store true 5 (.tmp 100) (.tmp 98), none, [14, 11, 13, 0, 1, 2, 3, 4, 5, 6, 7, 8, 9, 10, 11, 12, 13]⟩])
  (.seq (.region [
    ⟨some 101, .move (.tmp 12), none, []⟩,
    ⟨some 102, .bin .add (.tmp 101) (.const (.int .i64 1)), none, []⟩,
    ⟨some 12, .move (.tmp 102), none, []⟩])
  (.seq (.region [
    ⟨some 103, .move (.tmp 13), none, []⟩,
    ⟨some 104, .bin .sub (.tmp 103) (.const (.int .i64 1)), none, []⟩,
    ⟨some 13, .move (.tmp 104), none, []⟩])
  (.seq (.block 4 (.loop f49_l4))
  (.seq (.drawn [
    ⟨some 163, .move (.tmp 0), none, []⟩,
    ⟨some 164, .move (.tmp 13), none, []⟩,
    ⟨some 165, .move (.tmp 0), none, []⟩,
    ⟨some 166, .move (.tmp 1), none, []⟩,
    ⟨some 167, .move (.tmp 0), none, []⟩,
    ⟨some 168, .move (.tmp 1), none, []⟩,
    ⟨some 169, .indexAddr 5 (.tmp 167) (.tmp 168), none, [4, 5]⟩,
    ⟨some 170, .load true 5 (.tmp 169), none, [6]⟩,
    ⟨some 171, .move (.tmp 0), none, []⟩,
    ⟨some 172, .move (.tmp 13), none, []⟩,
    ⟨some 173, .indexAddr 5 (.tmp 171) (.tmp 172), none, [8, 9]⟩,
    ⟨some 174, .load true 5 (.tmp 173), none, [10]⟩,
    ⟨some 175, .indexAddr 5 (.tmp 163) (.tmp 164), none, [0, 1, 0, 1, 4, 5, 6, 7, 11]⟩,
    ⟨none, .store true 5 (.tmp 175) (.tmp 170), none, [12, 7, 0, 1, 4, 5, 6, 7, 11]⟩,
    ⟨some 176, .indexAddr 5 (.tmp 165) (.tmp 166), none, [2, 3, 0, 1, 2, 3, 4, 5, 6, 7, 8, 9, 10, 11, 12, 13]⟩,
    ⟨none, .store true 5 (.tmp 176) (.tmp 174), none, [14, 11, 13, 0, 1, 2, 3, 4, 5, 6, 7, 8, 9, 10, 11, 12, 13]⟩])
  (.seq (.region [
    ⟨some 177, .move (.tmp 13), none, []⟩,
    ⟨some 10, .move (.tmp 177), none, []⟩,
    ⟨some 11, .move (.const (.bool false)), none, []⟩])
  .ret))))))))))))
def f49 : AFunc := ⟨5, 178, [some 5, none, none, none, none], [.tmp 10, .tmp 11], f49_b⟩

/-! 50: math/bits.Len32 -/
def f50_b : ACode :=
  (.seq (.region [
    ⟨some 2, .move (.const (.int .i64 0)), none, []⟩])
  (.seq (.seq (.region [
    ⟨some 3, .move (.tmp 0), none, []⟩,
    ⟨some 4, .bin .geq (.tmp 3) (.const (.int .u32 65536)), none, []⟩])
  (.cond (.tmp 4)
  (.seq (.region [
    ⟨some 5, .move (.tmp 0), none, []⟩,
    ⟨some 6, .bin .shr (.tmp 5) (.const (.int .u64 16)), none, []⟩,
    ⟨some 0, .move (.tmp 6), none, []⟩])
  (.region [
    ⟨some 2, .move (.const (.int .i64 16)), none, []⟩]))
  .skip))
  (.seq (.seq (.region [
    ⟨some 7, .move (.tmp 0), none, []⟩,
    ⟨some 8, .bin .geq (.tmp 7) (.const (.int .u32 256)), none, []⟩])
  (.cond (.tmp 8)
  (.seq (.region [
    ⟨some 9, .move (.tmp 0), none, []⟩,
    ⟨some 10, .bin .shr (.tmp 9) (.const (.int .u64 8)), none, []⟩,
    ⟨some 0, .move (.tmp 10), none, []⟩])
  (.region [
    ⟨some 11, .move (.tmp 2), none, []⟩,
    ⟨some 12, .bin .add (.tmp 11) (.const (.int .i64 8)), none, []⟩,
    ⟨some 2, .move (.tmp 12), none, []⟩]))
  .skip))
  (.seq (.region [
    ⟨some 13, .move (.tmp 2), none, []⟩,
    ⟨some 14, .move (.tmp 0), none, []⟩,
    ⟨some 15, .convInt .u8 (.tmp 14), none, []⟩,
    ⟨some 16, .indexStr (.const (.str [0, 1, 2, 2, 3, 3, 3, 3, 4, 4, 4, 4, 4, 4, 4, 4, 5, 5, 5, 5, 5, 5, 5, 5, 5, 5, 5, 5, 5, 5, 5, 5, 6, 6, 6, 6, 6, 6, 6, 6, 6, 6, 6, 6, 6, 6, 6, 6, 6, 6, 6, 6, 6, 6, 6, 6, 6, 6, 6, 6, 6, 6, 6, 6, 7, 7, 7, 7, 7, 7, 7, 7, 7, 7, 7, 7, 7, 7, 7, 7, 7, 7, 7, 7, 7, 7, 7, 7, 7, 7, 7, 7, 7, 7, 7, 7, 7, 7, 7, 7, 7, 7, 7, 7, 7, 7, 7, 7, 7, 7, 7, 7, 7, 7, 7, 7, 7, 7, 7, 7, 7, 7, 7, 7, 7, 7, 7, 7, 8, 8, 8, 8, 8, 8, 8, 8, 8, 8, 8, 8, 8, 8, 8, 8, 8, 8, 8, 8, 8, 8, 8, 8, 8, 8, 8, 8, 8, 8, 8, 8, 8, 8, 8, 8, 8, 8, 8, 8, 8, 8, 8, 8, 8, 8, 8, 8, 8, 8, 8, 8, 8, 8, 8, 8, 8, 8, 8, 8, 8, 8, 8, 8, 8, 8, 8, 8, 8, 8, 8, 8, 8, 8, 8, 8, 8, 8, 8, 8, 8, 8, 8, 8, 8, 8, 8, 8, 8, 8, 8, 8, 8, 8, 8, 8, 8, 8, 8, 8, 8, 8, 8, 8, 8, 8, 8, 8, 8, 8, 8, 8, 8, 8, 8, 8, 8, 8, 8, 8, 8, 8, 8, 8, 8, 8, 8, 8])) (.tmp 15), none, []⟩,
    ⟨some 17, .convInt .i64 (.tmp 16), none, []⟩,
    ⟨some 18, .bin .add (.tmp 13) (.tmp 17), none, []⟩,
    ⟨some 2, .move (.tmp 18), none, []⟩])
  .ret))))
def f50 : AFunc := ⟨1, 19, [], [.tmp 2], f50_b⟩

/-! 51: math/bits.Len64 -/
def f51_b : ACode :=
  (.seq (.region [
    ⟨some 2, .move (.const (.int .i64 0)), none, []⟩])
  (.seq (.seq (.region [
    ⟨some 3, .move (.tmp 0), none, []⟩,
    ⟨some 4, .bin .geq (.tmp 3) (.const (.int .u64 4294967296)), none, []⟩])
  (.cond (.tmp 4)
  (.seq (.region [
    ⟨some 5, .move (.tmp 0), none, []⟩,
    ⟨some 6, .bin .shr (.tmp 5) (.const (.int .u64 32)), none, []⟩,
    ⟨some 0, .move (.tmp 6), none, []⟩])
  (.region [
    ⟨some 2, .move (.const (.int .i64 32)), none, []⟩]))
  .skip))
  (.seq (.seq (.region [
    ⟨some 7, .move (.tmp 0), none, []⟩,
    ⟨some 8, .bin .geq (.tmp 7) (.const (.int .u64 65536)), none, []⟩])
  (.cond (.tmp 8)
  (.seq (.region [
    ⟨some 9, .move (.tmp 0), none, []⟩,
    ⟨some 10, .bin .shr (.tmp 9) (.const (.int .u64 16)), none, []⟩,
    ⟨some 0, .move (.tmp 10), none, []⟩])
  (.region [
    ⟨some 11, .move (.tmp 2), none, []⟩,
    ⟨some 12, .bin .add (.tmp 11) (.const (.int .i64 16)), none, []⟩,
    ⟨some 2, .move (.tmp 12), none, []⟩]))
  .skip))
  (.seq (.seq (.region [
    ⟨some 13, .move (.tmp 0), none, []⟩,
    ⟨some 14, .bin .geq (.tmp 13) (.const (.int .u64 256)), none, []⟩])
  (.cond (.tmp 14)
  (.seq (.region [
    ⟨some 15, .move (.tmp 0), none, []⟩,
    ⟨some 16, .bin .shr (.tmp 15) (.const (.int .u64 8)), none, []⟩,
    ⟨some 0, .move (.tmp 16), none, []⟩])
  (.region [
    ⟨some 17, .move (.tmp 2), none, []⟩,
    ⟨some 18, .bin .add (.tmp 17) (.const (.int .i64 8)), none, []⟩,
    ⟨some 2, .move (.tmp 18), none, []⟩]))
  .skip))
  (.seq (.region [
    ⟨some 19, .move (.tmp 2), none, []⟩,
    ⟨some 20, .move (.tmp 0), none, []⟩,
    ⟨some 21, .convInt .u8 (.tmp 20), none, []⟩,
    ⟨some 22, .indexStr (.const (.str [0, 1, 2, 2, 3, 3, 3, 3, 4, 4, 4, 4, 4, 4, 4, 4, 5, 5, 5, 5, 5, 5, 5, 5, 5, 5, 5, 5, 5, 5, 5, 5, 6, 6, 6, 6, 6, 6, 6, 6, 6, 6, 6, 6, 6, 6, 6, 6, 6, 6, 6, 6, 6, 6, 6, 6, 6, 6, 6, 6, 6, 6, 6, 6, 7, 7, 7, 7, 7, 7, 7, 7, 7, 7, 7, 7, 7, 7, 7, 7, 7, 7, 7, 7, 7, 7, 7, 7, 7, 7, 7, 7, 7, 7, 7, 7, 7, 7, 7, 7, 7, 7, 7, 7, 7, 7, 7, 7, 7, 7, 7, 7, 7, 7, 7, 7, 7, 7, 7, 7, 7, 7, 7, 7, 7, 7, 7, 7, 8, 8, 8, 8, 8, 8, 8, 8, 8, 8, 8, 8, 8, 8, 8, 8, 8, 8, 8, 8, 8, 8, 8, 8, 8, 8, 8, 8, 8, 8, 8, 8, 8, 8, 8, 8, 8, 8, 8, 8, 8, 8, 8, 8, 8, 8, 8, 8, 8, 8, 8, 8, 8, 8, 8, 8, 8, 8, 8, 8, 8, 8, 8, 8, 8, 8, 8, 8, 8, 8, 8, 8, 8, 8, 8, 8, 8, 8, 8, 8, 8, 8, 8, 8, 8, 8, 8, 8, 8, 8, 8, 8, 8, 8, 8, 8, 8, 8, 8, 8, 8, 8, 8, 8, 8, 8, 8, 8, 8, 8, 8, 8, 8, 8, 8, 8, 8, 8, 8, 8, 8, 8, 8, 8, 8, 8, 8, 8])) (.tmp 21), none, []⟩,
    ⟨some 23, .convInt .i64 (.tmp 22), none, []⟩,
    ⟨some 24, .bin .add (.tmp 19) (.tmp 23), none, []⟩,
    ⟨some 2, .move (.tmp 24), none, []⟩])
  .ret)))))
def f51 : AFunc := ⟨1, 25, [], [.tmp 2], f51_b⟩

/-! 53: slices.siftDownCmpFunc[hachure/api.Event] -/
abbrev f53_l0 : ACode :=
  (.block 1 (.seq (.region [
    ⟨some 13, .move (.tmp 10), none, []⟩,
    ⟨some 14, .bin .mul (.const (.int .i64 2)) (.tmp 13), none, []⟩,
    ⟨some 15, .bin .add (.tmp 14) (.const (.int .i64 1)), none, []⟩,
    ⟨some 11, .move (.tmp 15), none, []⟩])
  (.seq (.seq (.region [
    ⟨some 16, .move (.tmp 11), none, []⟩,
    ⟨some 17, .move (.tmp 2), none, []⟩,
    ⟨some 18, .bin .geq (.tmp 16) (.tmp 17), none, []⟩])
  (.cond (.tmp 18)
  (.exit 0)
  .skip))
  (.seq (.seq (.drawn [
    ⟨some 19, .move (.tmp 11), none, []⟩,
    ⟨some 20, .bin .add (.tmp 19) (.const (.int .i64 1)), none, [0]⟩,
    ⟨some 21, .move (.tmp 2), none, []⟩,
    ⟨some 22, .bin .lss (.tmp 20) (.tmp 21), none, [1, 2]⟩,
    ⟨some 23, .move (.tmp 22), none, [3]⟩,
    ⟨some 24, .move (.tmp 4), some (23, true), [4]⟩,
    ⟨some 25, .move (.tmp 0), some (23, true), [4]⟩,
    ⟨some 26, .move (.tmp 3), some (23, true), [4]⟩,
    ⟨some 27, .move (.tmp 11), some (23, true), [4]⟩,
    ⟨some 28, .bin .add (.tmp 26) (.tmp 27), some (23, true), [7, 8, 4]⟩,
    ⟨some 29, .indexAddr 5 (.tmp 25) (.tmp 28), some (23, true), [6, 9, 4]⟩,
    ⟨some 30, .load true 5 (.tmp 29), some (23, true), [10, 4]⟩,
    ⟨some 31, .move (.tmp 0), some (23, true), [4]⟩,
    ⟨some 32, .move (.tmp 3), some (23, true), [4]⟩,
    ⟨some 33, .move (.tmp 11), some (23, true), [4]⟩,
    ⟨some 34, .bin .add (.tmp 32) (.tmp 33), some (23, true), [13, 14, 4]⟩,
    ⟨some 35, .bin .add (.tmp 34) (.const (.int .i64 1)), some (23, true), [15, 4]⟩,
    ⟨some 36, .indexAddr 5 (.tmp 31) (.tmp 35), some (23, true), [12, 16, 4]⟩,
    ⟨some 37, .load true 5 (.tmp 36), some (23, true), [17, 4]⟩,
    ⟨some 38, .call 624 false (.tmp 24) [(.tmp 30), (.tmp 37)], some (23, true), [5, 11, 18, 4, 4]⟩,
    ⟨some 39, .bin .lss (.tmp 38) (.const (.int .i64 0)), some (23, true), [19, 4]⟩,
    ⟨some 40, .pick (.tmp 23) (.tmp 39) (.const (.bool false)), none, [4, 20]⟩])
  (.cond (.tmp 40)
  (.region [
    ⟨some 41, .move (.tmp 11), none, []⟩,
    ⟨some 42, .bin .add (.tmp 41) (.const (.int .i64 1)), none, []⟩,
    ⟨some 11, .move (.tmp 42), none, []⟩])
  .skip))
  (.seq (.seq (.drawn [
    ⟨some 43, .move (.tmp 4), none, []⟩,
    ⟨some 44, .move (.tmp 0), none, []⟩,
    ⟨some 45, .move (.tmp 3), none, []⟩,
    ⟨some 46, .move (.tmp 10), none, []⟩,
    ⟨some 47, .bin .add (.tmp 45) (.tmp 46), none, [2, 3]⟩,
    ⟨some 48, .indexAddr 5 (.tmp 44) (.tmp 47), none, [1, 4]⟩,
    ⟨some 49, .load true 5 (.tmp 48), none, [5]⟩,
    ⟨some 50, .move (.tmp 0), none, []⟩,
    ⟨some 51, .move (.tmp 3), none, []⟩,
    ⟨some 52, .move (.tmp 11), none, []⟩,
    ⟨some 53, .bin .add (.tmp 51) (.tmp 52), none, [8, 9]⟩,
    ⟨some 54, .indexAddr 5 (.tmp 50) (.tmp 53), none, [7, 10]⟩,
    ⟨some 55, .load true 5 (.tmp 54), none, [11]⟩,
    ⟨some 56, .call 912 false (.tmp 43) [(.tmp 49), (.tmp 55)], none, [0, 6, 12]⟩,
    ⟨some 57, .bin .lss (.tmp 56) (.const (.int .i64 0)), none, [13]⟩,
    ⟨some 58, .un .not (.tmp 57), none, [14]⟩])
  (.cond (.tmp 58)
  .ret
  .skip))
  (.seq (.drawn [
    ⟨some 59, .move (.tmp 0), none, []⟩,
    ⟨some 60, .move (.tmp 3), none, []⟩,
    ⟨some 61, .move (.tmp 10), none, []⟩,
    ⟨some 62, .bin .add (.tmp 60) (.tmp 61), none, [1, 2]⟩,
    ⟨some 63, .move (.tmp 0), none, []⟩,
    ⟨some 64, .move (.tmp 3), none, []⟩,
    ⟨some 65, .move (.tmp 11), none, []⟩,
    ⟨some 66, .bin .add (.tmp 64) (.tmp 65), none, [5, 6]⟩,
    ⟨some 67, .move (.tmp 0), none, []⟩,
    ⟨some 68, .move (.tmp 3), none, []⟩,
    ⟨some 69, .move (.tmp 11), none, []⟩,
    ⟨some 70, .bin .add (.tmp 68) (.tmp 69), none, [9, 10]⟩,
    ⟨some 71, .indexAddr 5 (.tmp 67) (.tmp 70), none, [8, 11]⟩,
    ⟨some 72, .load true 5 (.tmp 71), none, [12]⟩,
    ⟨some 73, .move (.tmp 0), none, []⟩,
    ⟨some 74, .move (.tmp 3), none, []⟩,
    ⟨some 75, .move (.tmp 10), none, []⟩,
    ⟨some 76, .bin .add (.tmp 74) (.tmp 75), none, [15, 16]⟩,
    ⟨some 77, .indexAddr 5 (.tmp 73) (.tmp 76), none, [14, 17]⟩,
    ⟨some 78, .load true 5 (.tmp 77), none, [18]⟩,
    ⟨some 79, .indexAddr 5 (.tmp 59) (.tmp 62), none, [0, 3, 0, 1, 2, 3, 8, 9, 10, 11, 12, 13, 19]⟩,
    ⟨none, .store true 5 (.tmp 79) (.tmp 72), none, [20, 13, 0, 1, 2, 3, 8, 9, 10, 11, 12, 13, 19]⟩,
    ⟨some 80, .indexAddr 5 (.tmp 63) (.tmp 66), none, [4, 7, 0, 1, 2, 3, 4, 5, 6, 7, 8, 9, 10, 11, 12, 13, 14, 15, 16, 17, 18, 19, 20, 21]⟩,
    ⟨none, .store true 5 (.tmp 80) (.tmp 78), none, [22, 19, 21, 0, 1, 2, 3, 4, 5, 6, 7, 8, 9, 10, 11, 12, 13, 14, 15, 16, 17, 18, 19, 20, 21]⟩])
  (.region [
    ⟨some 81, .move (.tmp 11), none, []⟩,
    ⟨some 10, .move (.tmp 81), none, []⟩])))))))
def f53_b : ACode :=
  (.seq (.region [
    ⟨some 12, .move (.tmp 1), none, []⟩,
    ⟨some 10, .move (.tmp 12), none, []⟩])
  (.block 0 (.loop f53_l0)))
def f53 : AFunc := ⟨5, 82, [some 5, none, none, none, none], [], f53_b⟩

/-! 54: slices.nextPowerOfTwo -/
def f54_b : ACode :=
  (.seq (.region [
    ⟨some 2, .move (.const (.int .u64 0)), none, []⟩])
  (.seq (.region [
    ⟨some 3, .move (.tmp 0), none, []⟩,
    ⟨some 4, .convInt .u64 (.tmp 3), none, []⟩,
    ⟨some 5, .call 96 false (.const (.fn 40 [])) [(.tmp 4)], none, []⟩,
    ⟨some 6, .bin .shl (.const (.int .u64 1)) (.tmp 5), none, []⟩,
    ⟨some 2, .move (.tmp 6), none, []⟩])
  .ret))
def f54 : AFunc := ⟨1, 7, [], [.tmp 2], f54_b⟩

/-! 55: (*slices.xorshift).Next -/
def f55_b : ACode :=
  (.seq (.region [
    ⟨some 2, .move (.const (.int .u64 0)), none, []⟩])
  (.seq (.drawn [
    ⟨some 3, .move (.tmp 0), none, []⟩,
    ⟨some 4, .nilCheck (.tmp 3), none, [0]⟩,
    ⟨some 5, .load false 1 (.tmp 4), none, [1]⟩,
    ⟨some 6, .move (.tmp 0), none, []⟩,
    ⟨some 7, .nilCheck (.tmp 6), none, [3]⟩,
    ⟨some 8, .load false 1 (.tmp 7), none, [4]⟩,
    ⟨some 9, .bin .shl (.tmp 8) (.const (.int .u64 13)), none, [5]⟩,
    ⟨some 10, .bin .xor (.tmp 5) (.tmp 9), none, [2, 6]⟩,
    ⟨some 11, .nilCheck (.tmp 3), none, [0, 0, 1, 2, 3, 4, 5, 6, 7]⟩,
    ⟨none, .store false 1 (.tmp 11) (.tmp 10), none, [8, 7, 0, 1, 2, 3, 4, 5, 6, 7]⟩])
  (.seq (.drawn [
    ⟨some 12, .move (.tmp 0), none, []⟩,
    ⟨some 13, .nilCheck (.tmp 12), none, [0]⟩,
    ⟨some 14, .load false 1 (.tmp 13), none, [1]⟩,
    ⟨some 15, .move (.tmp 0), none, []⟩,
    ⟨some 16, .nilCheck (.tmp 15), none, [3]⟩,
    ⟨some 17, .load false 1 (.tmp 16), none, [4]⟩,
    ⟨some 18, .bin .shr (.tmp 17) (.const (.int .u64 7)), none, [5]⟩,
    ⟨some 19, .bin .xor (.tmp 14) (.tmp 18), none, [2, 6]⟩,
    ⟨some 20, .nilCheck (.tmp 12), none, [0, 0, 1, 2, 3, 4, 5, 6, 7]⟩,
    ⟨none, .store false 1 (.tmp 20) (.tmp 19), none, [8, 7, 0, 1, 2, 3, 4, 5, 6, 7]⟩])
  (.seq (.drawn [
    ⟨some 21, .move (.tmp 0), none, []⟩,
    ⟨some 22, .nilCheck (.tmp 21), none, [0]⟩,
    ⟨some 23, .load false 1 (.tmp 22), none, [1]⟩,
    ⟨some 24, .move (.tmp 0), none, []⟩,
    ⟨some 25, .nilCheck (.tmp 24), none, [3]⟩,
    ⟨some 26, .load false 1 (.tmp 25), none, [4]⟩,
    ⟨some 27, .bin .shl (.tmp 26) (.const (.int .u64 17)), none, [5]⟩,
    ⟨some 28, .bin .xor (.tmp 23) (.tmp 27), none, [2, 6]⟩,
    ⟨some 29, .nilCheck (.tmp 21), none, [0, 0, 1, 2, 3, 4, 5, 6, 7]⟩,
    ⟨none, .store false 1 (.tmp 29) (.tmp 28), none, [8, 7, 0, 1, 2, 3, 4, 5, 6, 7]⟩])
  (.seq (.region [
    ⟨some 30, .move (.tmp 0), none, []⟩,
    ⟨some 31, .nilCheck (.tmp 30), none, []⟩,
    ⟨some 32, .load false 1 (.tmp 31), none, []⟩,
    ⟨some 2, .move (.tmp 32), none, []⟩])
  .ret)))))
def f55 : AFunc := ⟨1, 33, [some 1], [.tmp 2], f55_b⟩

/-! 56: slices.medianAdjacentCmpFunc[hachure/api.Event] -/
def f56_b : ACode :=
  (.seq (.region [
    ⟨some 8, .move (.const (.int .i64 0)), none, []⟩])
  (.seq (.region [
    ⟨some 9, .move (.tmp 0), none, []⟩,
    ⟨some 10, .move (.tmp 1), none, []⟩,
    ⟨some 11, .bin .sub (.tmp 10) (.const (.int .i64 1)), none, []⟩,
    ⟨some 12, .move (.tmp 1), none, []⟩,
    ⟨some 13, .move (.tmp 1), none, []⟩,
    ⟨some 14, .bin .add (.tmp 13) (.const (.int .i64 1)), none, []⟩,
    ⟨some 15, .move (.tmp 2), none, []⟩,
    ⟨some 16, .move (.tmp 3), none, []⟩,
    ⟨some 17, .call 288 false (.const (.fn 57 [])) [(.tmp 9), (.tmp 11), (.tmp 12), (.tmp 14), (.tmp 15), (.tmp 16)], none, []⟩,
    ⟨some 8, .move (.tmp 17), none, []⟩])
  .ret))
def f56 : AFunc := ⟨4, 18, [none, none, some 1, none], [.tmp 8], f56_b⟩

/-! 57: slices.medianCmpFunc[hachure/api.Event] -/
def f57_b : ACode :=
  (.seq (.region [
    ⟨some 12, .move (.const (.int .i64 0)), none, []⟩])
  (.seq (.region [
    ⟨some 14, .move (.tmp 0), none, []⟩,
    ⟨some 15, .move (.tmp 1), none, []⟩,
    ⟨some 16, .move (.tmp 2), none, []⟩,
    ⟨some 17, .move (.tmp 4), none, []⟩,
    ⟨some 18, .move (.tmp 5), none, []⟩,
    ⟨some 19, .call 320 false (.const (.fn 58 [])) [(.tmp 14), (.tmp 15), (.tmp 16), (.tmp 17), (.tmp 18)], none, []⟩,
    ⟨some 13, .move (.tmp 19), none, []⟩,
    ⟨some 20, .extract (.tmp 13) 0, none, []⟩,
    ⟨some 21, .extract (.tmp 13) 1, none, []⟩,
    ⟨some 1, .move (.tmp 20), none, []⟩,
    ⟨some 2, .move (.tmp 21), none, []⟩])
  (.seq (.region [
    ⟨some 23, .move (.tmp 0), none, []⟩,
    ⟨some 24, .move (.tmp 2), none, []⟩,
    ⟨some 25, .move (.tmp 3), none, []⟩,
    ⟨some 26, .move (.tmp 4), none, []⟩,
    ⟨some 27, .move (.tmp 5), none, []⟩,
    ⟨some 28, .call 464 false (.const (.fn 58 [])) [(.tmp 23), (.tmp 24), (.tmp 25), (.tmp 26), (.tmp 27)], none, []⟩,
    ⟨some 22, .move (.tmp 28), none, []⟩,
    ⟨some 29, .extract (.tmp 22) 0, none, []⟩,
    ⟨some 30, .extract (.tmp 22) 1, none, []⟩,
    ⟨some 2, .move (.tmp 29), none, []⟩,
    ⟨some 3, .move (.tmp 30), none, []⟩])
  (.seq (.region [
    ⟨some 32, .move (.tmp 0), none, []⟩,
    ⟨some 33, .move (.tmp 1), none, []⟩,
    ⟨some 34, .move (.tmp 2), none, []⟩,
    ⟨some 35, .move (.tmp 4), none, []⟩,
    ⟨some 36, .move (.tmp 5), none, []⟩,
    ⟨some 37, .call 608 false (.const (.fn 58 [])) [(.tmp 32), (.tmp 33), (.tmp 34), (.tmp 35), (.tmp 36)], none, []⟩,
    ⟨some 31, .move (.tmp 37), none, []⟩,
    ⟨some 38, .extract (.tmp 31) 0, none, []⟩,
    ⟨some 39, .extract (.tmp 31) 1, none, []⟩,
    ⟨some 1, .move (.tmp 38), none, []⟩,
    ⟨some 2, .move (.tmp 39), none, []⟩])
  (.seq (.region [
    ⟨some 40, .move (.tmp 2), none, []⟩,
    ⟨some 12, .move (.tmp 40), none, []⟩])
  .ret)))))
def f57 : AFunc := ⟨6, 41, [none, none, none, none, some 1, none], [.tmp 12], f57_b⟩

/-! 58: slices.order2CmpFunc[hachure/api.Event] -/
def f58_b : ACode :=
  (.seq (.region [
    ⟨some 10, .move (.const (.int .i64 0)), none, []⟩,
    ⟨some 11, .move (.const (.int .i64 0)), none, []⟩])
  (.seq (.seq (.drawn [
    ⟨some 12, .move (.tmp 4), none, []⟩,
    ⟨some 13, .move (.tmp 0), none, []⟩,
    ⟨some 14, .move (.tmp 2), none, []⟩,
    ⟨some 15, .indexAddr 5 (.tmp 13) (.tmp 14), none, [1, 2]⟩,
    ⟨some 16, .load true 5 (.tmp 15), none, [3]⟩,
    ⟨some 17, .move (.tmp 0), none, []⟩,
    ⟨some 18, .move (.tmp 1), none, []⟩,
    ⟨some 19, .indexAddr 5 (.tmp 17) (.tmp 18), none, [5, 6]⟩,
    ⟨some 20, .load true 5 (.tmp 19), none, [7]⟩,
    ⟨some 21, .call 352 false (.tmp 12) [(.tmp 16), (.tmp 20)], none, [0, 4, 8]⟩,
    ⟨some 22, .bin .lss (.tmp 21) (.const (.int .i64 0)), none, [9]⟩])
  (.cond (.tmp 22)
  (.seq (.region [
    ⟨some 23, .move (.tmp 3), none, []⟩,
    ⟨some 24, .nilCheck (.tmp 23), none, []⟩,
    ⟨some 25, .load false 1 (.tmp 24), none, []⟩,
    ⟨some 26, .bin .add (.tmp 25) (.const (.int .i64 1)), none, []⟩,
    ⟨some 27, .nilCheck (.tmp 23), none, []⟩,
    ⟨none, .store false 1 (.tmp 27) (.tmp 26), none, []⟩])
  (.seq (.region [
    ⟨some 28, .move (.tmp 2), none, []⟩,
    ⟨some 29, .move (.tmp 1), none, []⟩,
    ⟨some 10, .move (.tmp 28), none, []⟩,
    ⟨some 11, .move (.tmp 29), none, []⟩])
  .ret))
  .skip))
  (.seq (.region [
    ⟨some 30, .move (.tmp 1), none, []⟩,
    ⟨some 31, .move (.tmp 2), none, []⟩,
    ⟨some 10, .move (.tmp 30), none, []⟩,
    ⟨some 11, .move (.tmp 31), none, []⟩])
  .ret)))
def f58 : AFunc := ⟨5, 32, [none, none, none, some 1, none], [.tmp 10, .tmp 11], f58_b⟩


/-- the functions by their numbers -/
def envTab : List (Nat × AFunc) := [(3, f3), (4, f4), (5, f5), (6, f6), (7, f7), (8, f8), (9, f9), (10, f10), (11, f11), (12, f12), (13, f13), (14, f14), (15, f15), (16, f16), (17, f17), (18, f18), (19, f19), (20, f20), (21, f21), (22, f22), (23, f23), (24, f24), (25, f25), (26, f26), (27, f27), (33, f33), (34, f34), (35, f35), (36, f36), (37, f37), (38, f38), (39, f39), (40, f40), (41, f41), (42, f42), (43, f43), (44, f44), (45, f45), (46, f46), (47, f47), (48, f48), (49, f49), (50, f50), (51, f51), (53, f53), (54, f54), (55, f55), (56, f56), (57, f57), (58, f58)]
/-- functions that are answered by themselves -/
def envExt : List (Nat × (List V → Option Res)) := [(28, cloneV 4 2872193639704), (29, cloneV 5 2469078742875), (30, cloneV 8 1450901941607), (31, cloneV 7 1927910799188), (32, cloneV 2 8278675785407), (52, sqrtV)]
def E : Env := ⟨fnOf envTab, extOf envExt⟩
theorem E_3 : E.fn 3 = some f3 := rfl
theorem X_3 (as : List V) : E.ext 3 as = none := rfl
theorem E_4 : E.fn 4 = some f4 := rfl
theorem X_4 (as : List V) : E.ext 4 as = none := rfl
theorem E_5 : E.fn 5 = some f5 := rfl
theorem X_5 (as : List V) : E.ext 5 as = none := rfl
theorem E_6 : E.fn 6 = some f6 := rfl
theorem X_6 (as : List V) : E.ext 6 as = none := rfl
theorem E_7 : E.fn 7 = some f7 := rfl
theorem X_7 (as : List V) : E.ext 7 as = none := rfl
theorem E_8 : E.fn 8 = some f8 := rfl
theorem X_8 (as : List V) : E.ext 8 as = none := rfl
theorem E_9 : E.fn 9 = some f9 := rfl
theorem X_9 (as : List V) : E.ext 9 as = none := rfl
theorem E_10 : E.fn 10 = some f10 := rfl
theorem X_10 (as : List V) : E.ext 10 as = none := rfl
theorem E_11 : E.fn 11 = some f11 := rfl
theorem X_11 (as : List V) : E.ext 11 as = none := rfl
theorem E_12 : E.fn 12 = some f12 := rfl
theorem X_12 (as : List V) : E.ext 12 as = none := rfl
theorem E_13 : E.fn 13 = some f13 := rfl
theorem X_13 (as : List V) : E.ext 13 as = none := rfl
theorem E_14 : E.fn 14 = some f14 := rfl
theorem X_14 (as : List V) : E.ext 14 as = none := rfl
theorem E_15 : E.fn 15 = some f15 := rfl
theorem X_15 (as : List V) : E.ext 15 as = none := rfl
theorem E_16 : E.fn 16 = some f16 := rfl
theorem X_16 (as : List V) : E.ext 16 as = none := rfl
theorem E_17 : E.fn 17 = some f17 := rfl
theorem X_17 (as : List V) : E.ext 17 as = none := rfl
theorem E_18 : E.fn 18 = some f18 := rfl
theorem X_18 (as : List V) : E.ext 18 as = none := rfl
theorem E_19 : E.fn 19 = some f19 := rfl
theorem X_19 (as : List V) : E.ext 19 as = none := rfl
theorem E_20 : E.fn 20 = some f20 := rfl
theorem X_20 (as : List V) : E.ext 20 as = none := rfl
theorem E_21 : E.fn 21 = some f21 := rfl
theorem X_21 (as : List V) : E.ext 21 as = none := rfl
theorem E_22 : E.fn 22 = some f22 := rfl
theorem X_22 (as : List V) : E.ext 22 as = none := rfl
theorem E_23 : E.fn 23 = some f23 := rfl
theorem X_23 (as : List V) : E.ext 23 as = none := rfl
theorem E_24 : E.fn 24 = some f24 := rfl
theorem X_24 (as : List V) : E.ext 24 as = none := rfl
theorem E_25 : E.fn 25 = some f25 := rfl
theorem X_25 (as : List V) : E.ext 25 as = none := rfl
theorem E_26 : E.fn 26 = some f26 := rfl
theorem X_26 (as : List V) : E.ext 26 as = none := rfl
theorem E_27 : E.fn 27 = some f27 := rfl
theorem X_27 (as : List V) : E.ext 27 as = none := rfl
theorem E_33 : E.fn 33 = some f33 := rfl
theorem X_33 (as : List V) : E.ext 33 as = none := rfl
theorem E_34 : E.fn 34 = some f34 := rfl
theorem X_34 (as : List V) : E.ext 34 as = none := rfl
theorem E_35 : E.fn 35 = some f35 := rfl
theorem X_35 (as : List V) : E.ext 35 as = none := rfl
theorem E_36 : E.fn 36 = some f36 := rfl
theorem X_36 (as : List V) : E.ext 36 as = none := rfl
theorem E_37 : E.fn 37 = some f37 := rfl
theorem X_37 (as : List V) : E.ext 37 as = none := rfl
theorem E_38 : E.fn 38 = some f38 := rfl
theorem X_38 (as : List V) : E.ext 38 as = none := rfl
theorem E_39 : E.fn 39 = some f39 := rfl
theorem X_39 (as : List V) : E.ext 39 as = none := rfl
theorem E_40 : E.fn 40 = some f40 := rfl
theorem X_40 (as : List V) : E.ext 40 as = none := rfl
theorem E_41 : E.fn 41 = some f41 := rfl
theorem X_41 (as : List V) : E.ext 41 as = none := rfl
theorem E_42 : E.fn 42 = some f42 := rfl
theorem X_42 (as : List V) : E.ext 42 as = none := rfl
theorem E_43 : E.fn 43 = some f43 := rfl
theorem X_43 (as : List V) : E.ext 43 as = none := rfl
theorem E_44 : E.fn 44 = some f44 := rfl
theorem X_44 (as : List V) : E.ext 44 as = none := rfl
theorem E_45 : E.fn 45 = some f45 := rfl
theorem X_45 (as : List V) : E.ext 45 as = none := rfl
theorem E_46 : E.fn 46 = some f46 := rfl
theorem X_46 (as : List V) : E.ext 46 as = none := rfl
theorem E_47 : E.fn 47 = some f47 := rfl
theorem X_47 (as : List V) : E.ext 47 as = none := rfl
theorem E_48 : E.fn 48 = some f48 := rfl
theorem X_48 (as : List V) : E.ext 48 as = none := rfl
theorem E_49 : E.fn 49 = some f49 := rfl
theorem X_49 (as : List V) : E.ext 49 as = none := rfl
theorem E_50 : E.fn 50 = some f50 := rfl
theorem X_50 (as : List V) : E.ext 50 as = none := rfl
theorem E_51 : E.fn 51 = some f51 := rfl
theorem X_51 (as : List V) : E.ext 51 as = none := rfl
theorem E_53 : E.fn 53 = some f53 := rfl
theorem X_53 (as : List V) : E.ext 53 as = none := rfl
theorem E_54 : E.fn 54 = some f54 := rfl
theorem X_54 (as : List V) : E.ext 54 as = none := rfl
theorem E_55 : E.fn 55 = some f55 := rfl
theorem X_55 (as : List V) : E.ext 55 as = none := rfl
theorem E_56 : E.fn 56 = some f56 := rfl
theorem X_56 (as : List V) : E.ext 56 as = none := rfl
theorem E_57 : E.fn 57 = some f57 := rfl
theorem X_57 (as : List V) : E.ext 57 as = none := rfl
theorem E_58 : E.fn 58 = some f58 := rfl
theorem X_58 (as : List V) : E.ext 58 as = none := rfl
theorem E_28 : E.fn 28 = none := rfl
theorem X_28 (as : List V) : E.ext 28 as = cloneV 4 2872193639704 as := rfl
theorem E_29 : E.fn 29 = none := rfl
theorem X_29 (as : List V) : E.ext 29 as = cloneV 5 2469078742875 as := rfl
theorem E_30 : E.fn 30 = none := rfl
theorem X_30 (as : List V) : E.ext 30 as = cloneV 8 1450901941607 as := rfl
theorem E_31 : E.fn 31 = none := rfl
theorem X_31 (as : List V) : E.ext 31 as = cloneV 7 1927910799188 as := rfl
theorem E_32 : E.fn 32 = none := rfl
theorem X_32 (as : List V) : E.ext 32 as = cloneV 2 8278675785407 as := rfl
theorem E_52 : E.fn 52 = none := rfl
theorem X_52 (as : List V) : E.ext 52 as = sqrtV as := rfl

end Go.AM
