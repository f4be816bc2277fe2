/-
  Texts of the proof, joined by program: AmFns. Own work.
-/
import Derived.Test.YtjmcpijpclfakaaGreatBase
set_option linter.unusedSimpArgs false
set_option linter.unusedVariables false
namespace Go.AM
namespace Fx
abbrev t (n : Nat) : AOpd := .tmp n
abbrev i0 : V := .int .i64 0
abbrev zE : V := .agg [i0, i0, i0, i0, .bool false, .str [], .lit 7 []]
abbrev mv (d n : Nat) : AOper := od d (.move (t n))
abbrev mc (d : Nat) (n : Int) : AOper := od d (.move (ic n))
abbrev ld (d n : Nat) : AOper := od d (.load false 1 (t n))
abbrev la (d k n : Nat) : AOper := od d (.load true k (t n))
abbrev fa (d k n : Nat) : AOper := od d (.fieldAddr k (t n))
abbrev eq (d n : Nat) (k : Int) : AOper := od d (.bin .eql (t n) (ic k))
abbrev ad (d n : Nat) (k : Int) : AOper := od d (.bin .add (t n) (ic k))
abbrev ls (d n m : Nat) : AOper := od d (.bin .lss (t n) (t m))
abbrev xt (d n k : Nat) : AOper := od d (.extract (t n) k)
abbrev ln (d n : Nat) : AOper := od d (.len (t n))
abbrev ca (d r f : Nat) (as : List AOpd) : AOper := od d (.call r false (fc f) as)
abbrev og (d : Nat) (x : AOp) (g : Nat) (b : Bool) : AOper := ⟨some d, x, some (g, b), []⟩
abbrev rn (l : List AOper) : ACode := .region l
abbrev sr (l : List AOper) (x : ACode) : ACode := .seq (.region l) x
end Fx
open Fx
abbrev f309_l0 : ACode :=
  (sr [ls 45 44 43]
  (.seq (.cond (t 45)
  .skip
  (.exit 2))
  (.seq (.block 3 (sr [od 46 (.indexAddr 1 (t 42) (t 44)), ld 47 46, mv 12 47]
  (sr [la 49 7 10, mv 50 12, ca 51 832 317 [(t 49), (t 50)], mv 48 51,
 xt 52 48 0, xt 53 48 1, xt 54 48 2, mv 13 52,
 mv 14 53, mv 15 54]
  (sr [la 56 7 10, mv 57 12, ca 58 944 318 [(t 56), (t 57)], mv 55 58,
 xt 59 55 0, xt 60 55 1, xt 61 55 2, mv 16 59,
 mv 17 60, mv 18 61]
  (.seq (.drawn [mv 62 13, mv 63 16, op 64 (.bin .neq (t 62) (t 63)) [0, 1], op 65 (.move (t 64)) [2],
 ⟨some 66, .move (t 14), some (65, false), [3]⟩, ⟨some 67, .move (t 17), some (65, false), [3]⟩, ⟨some 68, .bin .neq (t 66) (t 67), some (65, false), [4, 5, 3]⟩, op 69 (.pick (t 65) (.const (.bool true)) (t 68)) [3, 6],
 op 70 (.move (t 69)) [7, 3], ⟨some 71, .move (t 15), some (70, false), [8]⟩, ⟨some 72, .move (t 18), some (70, false), [8]⟩, ⟨some 73, .eqB true (t 71) (t 72), some (70, false), [9, 10, 8]⟩,
 op 74 (.pick (t 70) (.const (.bool true)) (t 73)) [8, 11], op 75 (.move (t 74)) [12, 8], ⟨some 76, .load true 7 (t 10), some (75, false), [13]⟩, ⟨some 77, .move (t 12), some (75, false), [13]⟩,
 ⟨some 78, .call 1264 false (fc 320) [(t 76), (t 77)], some (75, false), [14, 15, 13, 13]⟩, ⟨some 79, .load true 7 (t 10), some (75, false), [13]⟩, ⟨some 80, .move (t 12), some (75, false), [13]⟩, ⟨some 81, .call 1312 false (fc 321) [(t 79), (t 80)], some (75, false), [17, 18, 16, 13]⟩,
 ⟨some 82, .call 1328 false (fc 319) [(t 78), (t 81)], some (75, false), [16, 19, 19, 13]⟩, ⟨some 83, .un .not (t 82), some (75, false), [20, 13]⟩, op 84 (.pick (t 75) (.const (.bool true)) (t 83)) [13, 21], op 85 (.move (t 84)) [22, 20],
 ⟨some 86, .load true 9 (t 8), some (85, false), [23]⟩, ⟨some 87, .move (t 12), some (85, false), [23]⟩, ⟨some 88, .call 1424 false (fc 322) [(t 86), (t 87)], some (85, false), [24, 25, 23, 23]⟩, ⟨some 89, .load true 9 (t 8), some (85, false), [23]⟩,
 ⟨some 90, .move (t 12), some (85, false), [23]⟩, ⟨some 91, .call 1472 false (fc 323) [(t 89), (t 90)], some (85, false), [27, 28, 26, 23]⟩, ⟨some 92, .eqB true (t 88) (t 91), some (85, false), [26, 29, 23]⟩, op 93 (.pick (t 85) (.const (.bool true)) (t 92)) [23, 30]])
  (.cond (t 93)
  (sr [od 6 (.move (.const (.bool false)))]
  .ret)
  .skip))))))
  (rn [ad 94 44 1, mv 44 94]))))
abbrev f309_l1 : ACode :=
  (sr [ls 32 31 30]
  (.seq (.cond (t 32)
  .skip
  (.exit 0))
  (.seq (.block 1 (sr [od 33 (.indexAddr 7 (t 29) (t 31)), la 34 7 33, od 10 (.new 176 7 (.const zE)), ow (.store true 7 (t 10) (t 34))]
  (.seq (.drawn [la 35 9 8, fa 36 1 5, op 37 (.load false 1 (t 36)) [1], op 38 (.call 624 false (fc 315) [(t 35), (t 37)]) [0, 2],
 fa 39 2 5, op 40 (.load false 1 (t 39)) [4], op 41 (.call 672 false (fc 316) [(t 40)]) [5, 3], op 42 (.buildSlice 688 1 (.nils) 3 [(0, (t 38)), (1, (t 41)), (2, (.const (.nils)))]) [3, 6],
 op 43 (.len (t 42)) [7], mc 44 0])
  (.block 2 (.loop f309_l0)))))
  (rn [ad 95 31 1, mv 31 95]))))
def f309_b : ACode :=
  (sr [od 4 (.new 80 3 (t 1)), od 5 (.new 96 3 (t 2)), od 6 (.move (.const (.bool false)))]
  (sr [ca 19 320 311 [], mv 7 19]
  (sr [fa 20 0 5, ld 21 20, ca 22 368 312 [(t 21)], od 8 (.new 144 9 (.const (.agg [i0, .str [], .str [], i0, i0, .bool false, i0, i0, i0]))),
 ow (.store true 9 (t 8) (t 22))]
  (.seq (.seq (.drawn [mv 23 0, op 24 (.call 400 false (fc 313) [(t 23)]) [0], mv 25 0, op 26 (.call 432 false (fc 313) [(t 25)]) [2, 1],
 la 27 3 4, op 28 (.call 464 false (fc 314) [(t 26), (t 27)]) [3, 4, 3], op 29 (.buildSlice 480 7 (.agg [i0, i0, i0, i0, .bool false, .str [], .nils]) 2 [(0, (t 24)), (1, (t 28))]) [1, 5], op 30 (.len (t 29)) [6],
 mc 31 0])
  (.block 0 (.loop f309_l1)))
  (sr [mv 96 7, mv 6 96]
  .ret)))))
def f309 : AFunc := ⟨3, 97, [], [.tmp 6], f309_b⟩
def f311_b : ACode :=
  (sr [od 0 (.move (.const (.bool false)))]
  (sr [ca 4 80 331 [(.const (.str [119, 101, 105, 103, 104, 116, 32, 43, 32, 51])), (.const (.str [119, 101, 105, 103, 104, 116, 32, 43, 32, 51])), (ic 8), (ic 12)], mv 5 4, og 6 (.call 112 false (fc 331) [(.const (.str [119, 101, 105, 103, 104, 116, 32, 60, 32, 49, 48])), (.const (.str [116, 114, 117, 101])), (ic 1), (ic 1)]) 5 true, od 7 (.pick (t 5) (t 6) (.const (.bool false))),
 mv 8 7, og 9 (.call 160 false (fc 331) [(.const (.str [40, 99, 108, 97, 115, 115, 32, 61, 32, 34, 114, 111, 97, 100, 34, 41, 32, 111, 114, 32, 40, 115, 99, 97, 108, 101, 32, 60, 32, 57, 41])), (.const (.str [115, 99, 97, 108, 101, 32, 60, 32, 57])), (ic 0), (ic 1)]) 8 true, od 10 (.pick (t 8) (t 9) (.const (.bool false))), mv 1 10]
  (sr [ca 11 192 331 [(.const (.str [105, 102, 32, 115, 116, 97, 105, 114, 115, 32, 116, 104, 101, 110, 32, 49, 32, 101, 108, 115, 101, 32, 40, 119, 101, 105, 103, 104, 116, 32, 42, 32, 45, 50, 41])), (.const (.str [119, 101, 105, 103, 104, 116, 32, 42, 32, 45, 50])), (ic (-18)), (ic (-10))], mv 12 11, og 13 (.call 224 false (fc 331) [(.const (.str [99, 108, 97, 115, 115, 32, 61, 32, 34, 116, 114, 101, 101, 34])), (.const (.str [99, 108, 97, 115, 115, 32, 61, 32, 34, 116, 114, 101, 101, 34])), (ic 0), (ic 1)]) 12 true, od 14 (.pick (t 12) (t 13) (.const (.bool false))),
 mv 15 14, og 16 (.call 272 false (fc 331) [(.const (.str [110, 97, 109, 101])), (.const (.str [110, 97, 109, 101])), (ic 0), (ic (-1))]) 15 true, od 17 (.pick (t 15) (t 16) (.const (.bool false))), mv 2 17]
  (sr [od 18 (.build [i0, i0, i0, .lit 1 []] [(0, 1, (ic 4)), (1, 1, (ic 5)), (2, 1, (ic 9))]), od 19 (.buildSlice 320 4 (.agg [i0, i0, i0, .nils]) 1 [(0, (t 18))]), od 3 (.ren 65 (t 19))]
  (sr [mv 20 1, mv 21 20, og 22 (.move (t 2)) 21 true, od 23 (.pick (t 21) (t 22) (.const (.bool false))),
 mv 24 23, og 25 (.build [i0, .str [], .str [], i0, i0, .bool false, i0, i0, i0] [(3, 1, (ic 9))]) 24 true, og 26 (.move (t 3)) 24 true, og 27 (.call 448 false (fc 322) [(t 25), (t 26)]) 24 true,
 od 28 (.pick (t 24) (t 27) (.const (.bool false))), mv 29 28, og 30 (.build [i0, .str [], .str [], i0, i0, .bool false, i0, i0, i0] [(3, 1, (ic 10))]) 29 true, og 31 (.move (t 3)) 29 true,
 og 32 (.call 528 false (fc 322) [(t 30), (t 31)]) 29 true, og 33 (.un .not (t 32)) 29 true, od 34 (.pick (t 29) (t 33) (.const (.bool false))), mv 0 34]
  .ret)))))
def f311 : AFunc := ⟨0, 35, [], [.tmp 0], f311_b⟩
def f312_b : ACode :=
  (sr [od 2 (.new 48 9 (.const (.agg [i0, .str [], .str [], i0, i0, .bool false, i0, i0, i0])))]
  (sr [mv 5 0, od 6 (.build [.lit 1 [], i0] [(0, 1, (t 5))]), od 7 (.new 128 2 (t 6)), mv 3 7]
  (.seq (.drawn [mv 8 3, op 9 (.call 160 false (fc 85) [(t 8), (ic 3)]) [0], op 10 (.bin .add (ic 1) (t 9)) [1], op 11 (.call 192 false (fc 332) []) [1],
 mv 12 3, op 13 (.call 224 false (fc 85) [(t 12), (ic 6)]) [4, 3], op 14 (.indexAddr 1 (t 11) (t 13)) [3, 5], op 15 (.load false 1 (t 14)) [6],
 op 16 (.call 272 false (fc 332) []) [5], mv 17 3, op 18 (.call 304 false (fc 85) [(t 17), (ic 6)]) [9, 8], op 19 (.indexAddr 1 (t 16) (t 18)) [8, 10],
 op 20 (.load false 1 (t 19)) [11], mv 21 3, op 22 (.call 368 false (fc 85) [(t 21), (ic 60)]) [13, 10], mv 23 3,
 op 24 (.call 400 false (fc 85) [(t 23), (ic 5)]) [15, 14], op 25 (.bin .sub (t 24) (ic 2)) [16], mv 26 3, op 27 (.call 448 false (fc 85) [(t 26), (ic 2)]) [18, 16],
 op 28 (.bin .eql (t 27) (ic 1)) [19], op 29 (.build [i0, .str [], .str [], i0, i0, .bool false, i0, i0, i0] [(0, 1, (t 10)), (1, 1, (t 15)), (2, 1, (t 20)), (3, 1, (t 22)), (4, 1, (t 25)), (5, 1, (t 28))]) [2, 7, 12, 14, 17, 20], od 4 (.new 80 9 (.const (.agg [i0, .str [], .str [], i0, i0, .bool false, i0, i0, i0]))), ⟨none, .store true 9 (t 4) (t 29), none, ([22, 21, 19] ++ rg 23)⟩])
  (sr [od 30 (.buildSlice 496 1 (i0) 8 [(0, (ic 0)), (1, (ic 1)), (2, (ic 9)), (3, (ic 31)), (4, (ic 32)), (5, (ic 33)), (6, (ic 500)), (7, (ic 1024))]), mv 31 3, ca 32 528 85 [(t 31), (ic 8)], od 33 (.indexAddr 1 (t 30) (t 32)),
 ld 34 33, fa 35 6 4, ow (.store false 1 (t 35) (t 34))]
  (sr [mv 36 3, ca 37 608 85 [(t 36), (ic 24)], fa 38 7 4, ow (.store false 1 (t 38) (t 37))]
  (sr [mv 39 3, ca 40 656 85 [(t 39), (ic 3)], od 41 (.bin .add (ic 1) (t 40)), fa 42 8 4,
 ow (.store false 1 (t 42) (t 41))]
  (sr [la 43 9 4, ow (.store true 9 (t 2) (t 43))]
  .ret)))))))
def f312 : AFunc := ⟨1, 44, [], [.cell 2 true 9], f312_b⟩
def f313_b : ACode :=
  (sr [od 2 (.new 48 7 (.const zE))]
  (sr [mv 4 0, od 5 (.build [.lit 1 [], i0] [(0, 1, (t 4))]), od 6 (.new 112 2 (t 5)), mv 3 6]
  (sr [mv 7 3, mv 8 3, ca 9 160 85 [(t 8), (ic 3)], od 10 (.bin .add (ic 1) (t 9)),
 mv 11 3, ca 12 208 85 [(t 11), (ic 4)], od 13 (.bin .add (ic 1) (t 12)), ca 14 240 333 [(t 7), (t 10), (t 13)],
 ow (.store true 7 (t 2) (t 14))]
  .ret)))
def f313 : AFunc := ⟨1, 15, [], [.cell 2 true 7], f313_b⟩
abbrev f314_l0 : ACode :=
  (.seq (sr [mv 121 8, mv 122 7, od 123 (.bin .rem (t 122) (ic 5)), od 124 (.bin .add (ic 2) (t 123)),
 ls 125 121 124]
  (.cond (t 125)
  .skip
  (.exit 1)))
  (.seq (.block 2 (.drawn [la 128 7 5, la 129 7 5, op 130 (.call 2096 false (fc 334) [(t 129)]) [1], op 131 (.buildSlice 2112 7 (.agg [i0, i0, i0, i0, .bool false, .str [], .nils]) 2 [(0, (t 128)), (1, (t 130))]) [0, 2],
 op 132 (.build [i0, i0, i0, i0, .bool false, .str [], .nils] [(0, 1, (ic 4)), (6, 1, (t 131))]) [3], ⟨none, .store true 7 (t 5) (t 132), none, ([4, 2] ++ rg 5)⟩]))
  (rn [mv 126 8, ad 127 126 1, mv 8 127])))
def f314_b : ACode :=
  (sr [od 2 (.new 48 7 (t 0)), od 3 (.new 64 3 (t 1)), od 4 (.new 80 7 (.const zE))]
  (sr [la 9 7 2, od 10 (.call 176 true (fc 334) [(t 9)]), od 5 (.new 96 7 (.const (.agg [i0, i0, i0, i0, .bool false, .str [], .nils]))), ow (.store true 7 (t 5) (t 10))]
  (.seq (sr [fa 11 6 5, ld 12 11, ln 13 12, od 14 (.bin .gtr (t 13) (ic 0)),
 mv 15 14, og 16 (.indexArr 3 1 (t 3) (ic 0)) 15 true, og 17 (.load false 1 (t 16)) 15 true, og 18 (.call 304 false (fc 93) [(t 17), (ic 3)]) 15 true,
 og 19 (.bin .gtr (t 18) (ic 0)) 15 true, od 20 (.pick (t 15) (t 19) (.const (.bool false)))]
  (.cond (t 20)
  (sr [od 21 (.indexArr 3 1 (t 3) (ic 0)), ld 22 21, od 23 (.bin .quo (t 22) (ic 3)), fa 24 6 5,
 ld 25 24, ln 26 25, ca 27 448 93 [(t 23), (t 26)], mv 6 27]
  (.seq (.drawn [fa 28 6 5, op 29 (.load false 1 (t 28)) [0], mv 30 6, fa 31 6 5,
 op 32 (.load false 1 (t 31)) [3], mv 33 6, op 34 (.indexAddr 7 (t 32) (t 33)) [4, 5], op 35 (.load true 7 (t 34)) [6],
 od 36 (.indexArr 3 1 (t 3) (ic 0)), op 37 (.load false 1 (t 36)) [8], op 38 (.bin .quo (t 37) (ic 9)) [9], od 39 (.indexArr 3 1 (t 3) (ic 1)),
 op 40 (.load false 1 (t 39)) [11], od 41 (.indexArr 3 1 (t 3) (ic 2)), op 42 (.load false 1 (t 41)) [13], op 43 (.build [i0, i0, i0] [(0, 1, (t 38)), (1, 1, (t 40)), (2, 1, (t 42))]) [10, 12, 14],
 op 44 (.call 720 false (fc 314) [(t 35), (t 43)]) [7, 15], op 45 (.indexAddr 7 (t 29) (t 30)) ([1, 2] ++ rg 17), ⟨none, .store true 7 (t 45) (t 44), none, ([17, 16, 16] ++ rg 17)⟩])
  (sr [la 46 7 5, ow (.store true 7 (t 4) (t 46))]
  .ret)))
  .skip))
  (sr [od 47 (.indexArr 3 1 (t 3) (ic 2)), ld 48 47, ca 49 800 93 [(t 48), (ic 40)], mv 7 49]
  (.seq (sr [od 50 (.indexArr 3 1 (t 3) (ic 1)), ld 51 50, ca 52 848 93 [(t 51), (ic 8)]]
  (.block 0 (sr [eq 54 52 0, mv 53 54]
  (.cond (t 53)
  (rn [mv 55 7, od 56 (.bin .rem (t 55) (ic 16)), fa 57 0 5, ow (.store false 1 (t 57) (t 56))])
  (sr [eq 59 52 1, mv 58 59]
  (.cond (t 58)
  (rn [mv 60 7, od 61 (.bin .rem (t 60) (ic 12)), fa 62 1 5, ow (.store false 1 (t 62) (t 61))])
  (sr [eq 64 52 2, mv 63 64]
  (.cond (t 63)
  (rn [mv 65 7, mv 66 7, od 67 (.bin .rem (t 66) (ic 2)), od 68 (.bin .add (ic 1073741824) (t 67)),
 mv 69 7, od 70 (.bin .rem (t 69) (ic 2)), od 71 (.bin .sub (ic (-1073741824)) (t 70)), od 72 (.buildSlice 1168 1 (i0) 3 [(0, (t 65)), (1, (t 68)), (2, (t 71))]),
 mv 73 7, od 74 (.bin .rem (t 73) (ic 3)), od 75 (.indexAddr 1 (t 72) (t 74)), ld 76 75,
 od 77 (.call 1248 true (fc 335) [(t 76)]), fa 78 2 5, ow (.store true 4 (t 78) (t 77))])
  (sr [eq 80 52 3, mv 79 80]
  (.cond (t 79)
  (rn [od 81 (.buildSlice 1312 1 (.str []) 5 [(0, (.const (.str [116, 114, 101, 101]))), (1, (.const (.str [97, 34]))), (2, (.const (.str [120, 10]))), (3, (.const (.str [97, 98, 99, 100, 101, 102, 103, 104, 105, 106, 107, 108, 109, 110, 111, 112, 113, 114, 115, 116, 117, 118, 119, 120]))), (4, (.const (.str [97, 98, 99, 100, 101, 102, 103, 104, 105, 106, 107, 108, 109, 110, 111, 112, 113, 114, 115, 116, 117, 118, 119, 120, 121])))]), mv 82 7, od 83 (.bin .rem (t 82) (ic 5)), od 84 (.indexAddr 1 (t 81) (t 83)),
 ld 85 84, od 86 (.call 1392 true (fc 336) [(t 85)]), fa 87 2 5, ow (.store true 4 (t 87) (t 86))])
  (sr [eq 89 52 4, mv 88 89]
  (.cond (t 88)
  (.drawn [fa 90 6 5, op 91 (.load false 1 (t 90)) [0], mv 92 7, op 93 (.call 1504 false (fc 335) [(t 92)]) [2],
 op 94 (.build [i0, i0, i0, i0, .bool false, .str [], .lit 7 []] [(0, 1, (ic 1)), (2, 4, (t 93))]) [3], op 95 (.buildSlice 1536 7 (.agg [i0, i0, i0, i0, .bool false, .str [], .nils]) 1 [(0, (t 94))]) [4], op 96 (.append 101 7 1737499856038 (t 91) (t 95)) [1, 5, 3], op 97 (.fieldAddr 6 (t 5)) (rg 7),
 ⟨none, .store false 1 (t 97) (t 96), none, ([7, 6, 6] ++ rg 7)⟩])
  (sr [eq 99 52 5, mv 98 99]
  (.cond (t 98)
  (rn [fa 100 6 5, ld 101 100, fa 102 6 5, ld 103 102,
 ln 104 103, od 105 (.bin .quo (t 104) (ic 2)), od 106 (.slice 7 (t 101) none (some (t 105)) none), fa 107 6 5,
 ow (.store false 1 (t 107) (t 106))])
  (sr [eq 109 52 6, mv 108 109]
  (.cond (t 108)
  (rn [mv 110 7, od 111 (.bin .rem (t 110) (ic 5)), mv 112 7, od 113 (.bin .rem (t 112) (ic 2)),
 mv 114 7, od 115 (.bin .rem (t 114) (ic 4)), od 116 (.bin .gtr (t 115) (ic 1)), od 117 (.build [i0, i0, .bool false, .str []] [(0, 1, (t 111)), (1, 1, (t 113)), (2, 1, (t 116))]),
 fa 118 2 5, ow (.store true 4 (t 118) (t 117))])
  (sr [eq 120 52 7, mv 119 120]
  (.cond (t 119)
  (sr [mc 8 0]
  (.block 1 (.loop f314_l0)))
  .skip))))))))))))))))))
  (sr [la 133 7 5, ow (.store true 7 (t 4) (t 133))]
  .ret))))))
def f314 : AFunc := ⟨2, 134, [], [.cell 4 true 7], f314_b⟩
abbrev f315_l0 : ACode :=
  (.seq (sr [mv 10 6, od 11 (.bin .leq (t 10) (ic 9)), mv 12 11, og 13 (.move (t 6)) 12 true,
 og 14 (.move (t 1)) 12 true, og 15 (.len (t 14)) 12 true, og 16 (.bin .leq (t 13) (t 15)) 12 true, od 17 (.pick (t 12) (t 16) (.const (.bool false)))]
  (.cond (t 17)
  .skip
  (.exit 0)))
  (.seq (.block 1 (sr [mv 20 1, mv 21 6, od 22 (.bin .sub (t 21) (ic 1)), od 23 (.indexAddr 1 (t 20) (t 22)),
 ld 24 23, mv 7 24]
  (sr [la 25 9 2, mv 26 6, ca 27 448 337 [(t 25), (t 26)], od 8 (.new 144 4 (.const (.agg [i0, i0, .bool false, .str []]))),
 ow (.store true 4 (t 8) (t 27))]
  (sr [mv 28 6, fa 29 1 8, ld 30 29, fa 31 1 8,
 ld 32 31, fa 33 3 8, ld 34 33, od 35 (.buildSlice 576 1 (.str []) 1 [(0, (t 34))]),
 od 36 (.build [i0, i0, i0, .lit 1 []] [(0, 1, (t 28)), (1, 1, (t 30)), (2, 1, (t 32)), (3, 1, (t 35))]), od 9 (.new 160 4 (.const (.agg [i0, i0, i0, .lit 1 []]))), ow (.store true 4 (t 9) (t 36))]
  (.seq (sr [fa 37 2 8, ld 38 37]
  (.cond (t 38)
  (rn [fa 39 1 9, ow (.store false 1 (t 39) (ic 1)), fa 40 2 9, ow (.store false 1 (t 40) (ic 1))])
  .skip))
  (.seq (sr [mv 41 7, od 42 (.bin .and (t 41) (ic 3))]
  (.block 2 (sr [eq 44 42 0, mv 43 44]
  (.cond (t 43)
  (.exit 1)
  (sr [eq 46 42 1, mv 45 46]
  (.cond (t 45)
  (sr [fa 47 1 9, ld 48 47, mv 49 7, od 50 (.bin .shr (t 49) (.const (.int .u64 2))),
 od 51 (.bin .and (t 50) (ic 31)), od 52 (.bin .sub (t 48) (t 51)), fa 53 2 9, ld 54 53,
 mv 55 7, od 56 (.bin .shr (t 55) (.const (.int .u64 7))), od 57 (.bin .and (t 56) (ic 31)), od 58 (.bin .add (t 54) (t 57)),
 fa 59 1 9, ow (.store false 1 (t 59) (t 52)), fa 60 2 9, ow (.store false 1 (t 60) (t 58))]
  (.drawn [ca 61 992 332 [], mv 62 7, op 63 (.bin .shr (t 62) (.const (.int .u64 2))) [1], op 64 (.bin .and (t 63) (ic 3)) [2],
 op 65 (.indexAddr 1 (t 61) (t 64)) [0, 3], op 66 (.load false 1 (t 65)) [4], fa 67 3 8, op 68 (.load false 1 (t 67)) [6],
 op 69 (.buildSlice 1120 1 (.str []) 3 [(0, (t 66)), (1, (t 68)), (2, (.const (.str [120])))]) [5, 7], op 70 (.fieldAddr 3 (t 9)) (rg 9), ⟨none, .store false 1 (t 70) (t 69), none, ([9, 8, 0] ++ rg 9)⟩]))
  (sr [eq 72 42 2, mv 71 72]
  (.cond (t 71)
  (.drawn [fa 73 1 9, op 74 (.load false 1 (t 73)) [0], mv 75 7, op 76 (.bin .shr (t 75) (.const (.int .u64 2))) [2],
 op 77 (.bin .and (t 76) (ic 31)) [3], op 78 (.bin .sub (t 74) (t 77)) [1, 4], fa 79 3 8, op 80 (.load false 1 (t 79)) [6],
 fa 81 3 8, op 82 (.load false 1 (t 81)) [8], op 83 (.buildSlice 1344 1 (.str []) 2 [(0, (t 80)), (1, (t 82))]) [7, 9], op 84 (.fieldAddr 1 (t 9)) (rg 6),
 ⟨none, .store false 1 (t 84) (t 78), none, ([11, 5] ++ rg 6)⟩, op 85 (.fieldAddr 3 (t 9)) (rg 13), ⟨none, .store false 1 (t 85) (t 83), none, ([13, 10, 12] ++ rg 13)⟩])
  .skip))))))))
  (rn [mv 86 5, la 87 4 9, od 88 (.buildSlice 1424 4 (.agg [i0, i0, i0, .nils]) 1 [(0, (t 87))]), od 89 (.append 97 4 2872193639704 (t 86) (t 88)),
 od 5 (.ren 97 (t 89))])))))))
  (rn [mv 18 6, ad 19 18 1, mv 6 19])))
def f315_b : ACode :=
  (sr [od 2 (.new 48 9 (t 0)), od 4 (.emptyBuf 81 4)]
  (sr [od 5 (.emptyBuf 97 4)]
  (.seq (sr [mc 6 1]
  (.block 0 (.loop f315_l0)))
  (sr [mv 90 5, mv 4 90]
  .ret))))
def f315 : AFunc := ⟨2, 91, [], [.tmp 4], f315_b⟩
abbrev f316_l0 : ACode :=
  (.seq (sr [mv 22 6, mv 23 0, mv 24 4, od 25 (.indexAddr 4 (t 23) (t 24)),
 fa 26 3 25, ld 27 26, ln 28 27, ls 29 22 28,
 mv 30 29, og 31 (.move (t 6)) 30 true, og 32 (.bin .lss (t 31) (ic 5)) 30 true, od 33 (.pick (t 30) (t 32) (.const (.bool false)))]
  (.cond (t 33)
  .skip
  (.exit 2)))
  (.seq (.block 3 (.drawn [fa 36 3 5, op 37 (.load false 1 (t 36)) [0], mv 38 0, mv 39 4,
 op 40 (.indexAddr 4 (t 38) (t 39)) [2, 3], op 41 (.fieldAddr 3 (t 40)) [4], op 42 (.load false 1 (t 41)) [5], mv 43 6,
 op 44 (.indexAddr 1 (t 42) (t 43)) [6, 7], op 45 (.load false 1 (t 44)) [8], mv 46 0, mv 47 4,
 op 48 (.indexAddr 4 (t 46) (t 47)) [10, 11], op 49 (.fieldAddr 3 (t 48)) [12], op 50 (.load false 1 (t 49)) [13], mv 51 6,
 op 52 (.indexAddr 1 (t 50) (t 51)) [14, 15], op 53 (.load false 1 (t 52)) [16], op 54 (.lenStr (t 53)) [17], op 55 (.min [(t 54), (ic 30)]) [18],
 op 56 (.sliceStr (t 45) none (some (t 55))) [9, 19], op 57 (.buildSlice 928 1 (.str []) 1 [(0, (t 56))]) [20], op 58 (.append 101 1 8278675785407 (t 37) (t 57)) [1, 21], op 59 (.fieldAddr 3 (t 5)) (rg 23),
 ⟨none, .store false 1 (t 59) (t 58), none, ([23, 22, 22] ++ rg 23)⟩]))
  (rn [mv 34 6, ad 35 34 1, mv 6 35])))
abbrev f316_l1 : ACode :=
  (.seq (sr [mv 7 4, mv 8 0, ln 9 8, ls 10 7 9,
 mv 11 10, og 12 (.move (t 4)) 11 true, og 13 (.bin .lss (t 12) (ic 6)) 11 true, od 14 (.pick (t 11) (t 13) (.const (.bool false)))]
  (.cond (t 14)
  .skip
  (.exit 0)))
  (.seq (.block 1 (sr [mv 17 0, mv 18 4, od 19 (.indexAddr 4 (t 17) (t 18)), la 20 4 19,
 od 5 (.new 96 4 (.const (.agg [i0, i0, i0, .nils]))), ow (.store true 4 (t 5) (t 20))]
  (sr [fa 21 3 5, ow (.store false 1 (t 21) (.const (.nils)))]
  (.seq (sr [mc 6 0]
  (.block 2 (.loop f316_l0)))
  (rn [mv 60 3, la 61 4 5, od 62 (.buildSlice 1008 4 (.agg [i0, i0, i0, .nils]) 1 [(0, (t 61))]), od 63 (.append 65 4 2872193639704 (t 60) (t 62)),
 od 3 (.ren 65 (t 63))])))))
  (rn [mv 15 4, ad 16 15 1, mv 4 16])))
def f316_b : ACode :=
  (sr [od 2 (.emptyBuf 49 4)]
  (sr [od 3 (.emptyBuf 65 4)]
  (.seq (sr [mc 4 0]
  (.block 0 (.loop f316_l1)))
  (sr [mv 64 3, mv 2 64]
  .ret))))
def f316 : AFunc := ⟨1, 65, [], [.tmp 2], f316_b⟩
def f317_b : ACode :=
  (sr [od 2 (.new 48 7 (t 0)), mc 4 0, mc 5 0, od 6 (.move (.const (.bool false)))]
  (sr [la 11 7 2, ca 12 208 338 [(t 11)], mv 10 12, xt 13 10 0,
 xt 14 10 1, mv 7 13, mv 8 14]
  (.seq (sr [mv 15 8, od 16 (.bin .neq (t 15) (ic 0)), mv 17 16, og 18 (.move (t 7)) 17 false,
 og 19 (.bin .eql (t 18) (ic 3)) 17 false, od 20 (.pick (t 17) (.const (.bool true)) (t 19))]
  (.cond (t 20)
  (sr [mc 4 0, mc 5 0, od 6 (.move (.const (.bool false)))]
  .ret)
  .skip))
  (.seq (.drawn [mv 21 1, op 22 (.call 368 false (fc 339) [(t 21)]) [0], la 23 7 2, op 24 (.call 400 false (fc 340) [(t 22), (t 23)]) [1, 2, 1],
 od 9 (.new 160 5 (.const (.agg [i0, i0, .lit 1 [], .bool false, .bool false]))), ⟨none, .store true 5 (t 9) (t 24), none, ([4, 3, 3] ++ rg 5)⟩])
  (.seq (.drawn [fa 25 0 9, op 26 (.load false 1 (t 25)) [0], fa 27 1 9, op 28 (.load false 1 (t 27)) [2],
 op 4 (.move (t 26)) [1, 0, 1], op 5 (.move (t 28)) ([3, 4] ++ rg 5), op 6 (.move (.const (.bool true))) ([5] ++ rg 6)])
  .ret)))))
def f317 : AFunc := ⟨2, 29, [], [.tmp 4, .tmp 5, .tmp 6], f317_b⟩
def f318_b : ACode :=
  (sr [od 2 (.new 48 7 (t 0)), mc 4 0, mc 5 0, od 6 (.move (.const (.bool false)))]
  (sr [la 12 7 2, ca 13 224 341 [(t 12)], mv 11 13, xt 14 11 0,
 xt 15 11 1, mv 7 14, mv 8 15]
  (.seq (sr [mv 16 8, od 17 (.bin .neq (t 16) (ic 0)), mv 18 17, og 19 (.move (t 7)) 18 false,
 og 20 (.bin .eql (t 19) (ic 3)) 18 false, od 21 (.pick (t 18) (.const (.bool true)) (t 20))]
  (.cond (t 21)
  (sr [mc 4 0, mc 5 0, od 6 (.move (.const (.bool false)))]
  .ret)
  .skip))
  (sr [la 23 7 2, mv 24 1, ca 25 416 342 [(t 23), (t 24)], mv 22 25,
 xt 26 22 0, xt 27 22 1, mv 9 26, mv 10 27]
  (sr [mv 28 9, mv 29 10, mv 4 28, mv 5 29,
 od 6 (.move (.const (.bool true)))]
  .ret)))))
def f318 : AFunc := ⟨2, 30, [], [.tmp 4, .tmp 5, .tmp 6], f318_b⟩
abbrev f319_l0 : ACode :=
  (.seq (sr [mv 34 5, fa 35 6 2, ld 36 35, ln 37 36,
 ls 38 34 37]
  (.cond (t 38)
  .skip
  (.exit 0)))
  (.seq (.block 1 (.seq (.drawn [fa 41 6 2, op 42 (.load false 1 (t 41)) [0], mv 43 5, op 44 (.indexAddr 7 (t 42) (t 43)) [1, 2],
 op 45 (.load true 7 (t 44)) [3], fa 46 6 3, op 47 (.load false 1 (t 46)) [5], mv 48 5,
 op 49 (.indexAddr 7 (t 47) (t 48)) [6, 7], op 50 (.load true 7 (t 49)) [8], op 51 (.call 832 false (fc 319) [(t 45), (t 50)]) [4, 9], op 52 (.un .not (t 51)) [10]])
  (.cond (t 52)
  (sr [od 4 (.move (.const (.bool false)))]
  .ret)
  .skip)))
  (rn [mv 39 5, ad 40 39 1, mv 5 40])))
def f319_b : ACode :=
  (sr [od 2 (.new 48 7 (t 0)), od 3 (.new 64 7 (t 1)), od 4 (.move (.const (.bool false)))]
  (.seq (sr [fa 6 0 2, ld 7 6, fa 8 0 3, ld 9 8,
 od 10 (.bin .neq (t 7) (t 9)), mv 11 10, og 12 (.fieldAddr 1 (t 2)) 11 false, og 13 (.load false 1 (t 12)) 11 false,
 og 14 (.fieldAddr 1 (t 3)) 11 false, og 15 (.load false 1 (t 14)) 11 false, og 16 (.bin .neq (t 13) (t 15)) 11 false, od 17 (.pick (t 11) (.const (.bool true)) (t 16)),
 mv 18 17, og 19 (.fieldAddr 2 (t 2)) 18 false, og 20 (.load true 4 (t 19)) 18 false, og 21 (.fieldAddr 2 (t 3)) 18 false,
 og 22 (.load true 4 (t 21)) 18 false, og 23 (.eqA true [1, 1, 0, 2] (t 20) (t 22)) 18 false, od 24 (.pick (t 18) (.const (.bool true)) (t 23)), mv 25 24,
 og 26 (.fieldAddr 6 (t 2)) 25 false, og 27 (.load false 1 (t 26)) 25 false, og 28 (.len (t 27)) 25 false, og 29 (.fieldAddr 6 (t 3)) 25 false,
 og 30 (.load false 1 (t 29)) 25 false, og 31 (.len (t 30)) 25 false, og 32 (.bin .neq (t 28) (t 31)) 25 false, od 33 (.pick (t 25) (.const (.bool true)) (t 32))]
  (.cond (t 33)
  (sr [od 4 (.move (.const (.bool false)))]
  .ret)
  .skip))
  (.seq (sr [mc 5 0]
  (.block 0 (.loop f319_l0)))
  (sr [od 4 (.move (.const (.bool true)))]
  .ret))))
def f319 : AFunc := ⟨2, 53, [], [.tmp 4], f319_b⟩
def f320_b : ACode :=
  (sr [od 2 (.new 48 7 (t 0)), od 4 (.new 80 7 (.const zE))]
  (.seq (sr [la 8 7 2, ca 9 160 338 [(t 8)], mv 7 9, xt 10 7 0,
 xt 11 7 1, mv 5 10, mv 6 11]
  (sr [mv 12 6, od 13 (.bin .neq (t 12) (ic 0))]
  (.cond (t 13)
  (sr [la 14 7 2, ca 15 256 343 [(t 14)], ow (.store true 7 (t 4) (t 15))]
  .ret)
  .skip)))
  (.seq (.drawn [mv 16 1, op 17 (.call 288 false (fc 339) [(t 16)]) [0], la 18 7 2, op 19 (.call 320 false (fc 344) [(t 17), (t 18)]) [1, 2, 1],
 ⟨none, .store true 7 (t 4) (t 19), none, [3, 3, 0, 1, 2, 3]⟩])
  .ret)))
def f320 : AFunc := ⟨2, 20, [], [.cell 4 true 7], f320_b⟩
abbrev f321_l0 : ACode :=
  (.seq (sr [mv 140 12, fa 141 6 9, ld 142 141, ln 143 142,
 ls 144 140 143]
  (.cond (t 144)
  .skip
  (.exit 1)))
  (.seq (.block 2 (.drawn [fa 147 6 9, op 148 (.load false 1 (t 147)) [0], mv 149 12, fa 150 6 2,
 op 151 (.load false 1 (t 150)) [3], mv 152 12, op 153 (.indexAddr 7 (t 151) (t 152)) [4, 5], op 154 (.load true 7 (t 153)) [6],
 mv 155 1, op 156 (.call 2512 false (fc 321) [(t 154), (t 155)]) [7, 8], op 157 (.indexAddr 7 (t 148) (t 149)) ([1, 2] ++ rg 10), ⟨none, .store true 7 (t 157) (t 156), none, ([10, 9, 9] ++ rg 10)⟩]))
  (rn [mv 145 12, ad 146 145 1, mv 12 146])))
def f321_b : ACode :=
  (sr [od 2 (.new 48 7 (t 0)), od 4 (.new 80 7 (.const zE))]
  (sr [la 14 7 2, ca 15 256 341 [(t 14)], mv 13 15, xt 16 13 0,
 xt 17 13 1, mv 5 16, mv 6 17]
  (.seq (sr [mv 18 6, od 19 (.bin .neq (t 18) (ic 0))]
  (.cond (t 19)
  (sr [la 20 7 2, ca 21 352 334 [(t 20)], ow (.store true 7 (t 4) (t 21))]
  .ret)
  .skip))
  (sr [la 23 7 2, mv 24 5, mv 25 1, ca 26 432 345 [(t 23), (t 24), (t 25)],
 mv 22 26, xt 27 22 0, xt 28 22 1, od 7 (.new 128 7 (.const zE)),
 ow (.store true 7 (t 7) (t 27)), mv 8 28]
  (.seq (sr [mv 29 8]
  (.cond (t 29)
  (sr [la 30 7 7, ow (.store true 7 (t 4) (t 30))]
  .ret)
  .skip))
  (sr [la 31 7 2, od 32 (.call 528 true (fc 334) [(t 31)]), od 9 (.new 160 7 (.const zE)), ow (.store true 7 (t 9) (t 32))]
  (.seq (sr [fa 33 0 2, ld 34 33, eq 35 34 13, mv 36 35,
 og 37 (.fieldAddr 0 (t 2)) 36 false, og 38 (.load false 1 (t 37)) 36 false, og 39 (.bin .eql (t 38) (ic 4)) 36 false, od 40 (.pick (t 36) (.const (.bool true)) (t 39)),
 mv 41 40, og 42 (.fieldAddr 0 (t 2)) 41 false, og 43 (.load false 1 (t 42)) 41 false, og 44 (.bin .eql (t 43) (ic 5)) 41 false,
 od 45 (.pick (t 41) (.const (.bool true)) (t 44))]
  (.cond (t 45)
  (sr [fa 47 6 2, ld 48 47, od 49 (.indexAddr 7 (t 48) (ic 0)), la 50 7 49,
 mv 51 1, ca 52 848 342 [(t 50), (t 51)], mv 46 52, xt 53 46 0,
 xt 54 46 1, mv 10 53, mv 11 54]
  (.seq (.block 0 (sr [fa 56 0 2, ld 57 56, eq 58 57 13, mv 59 58,
 og 60 (.move (t 10)) 59 true, og 61 (.bin .eql (t 60) (ic 1)) 59 true, od 62 (.pick (t 59) (t 61) (.const (.bool false))), mv 55 62]
  (.cond (t 55)
  (sr [fa 63 6 2, ld 64 63, od 65 (.indexAddr 7 (t 64) (ic 1)), la 66 7 65,
 mv 67 1, ca 68 1104 321 [(t 66), (t 67)], ow (.store true 7 (t 4) (t 68))]
  .ret)
  (sr [fa 70 0 2, ld 71 70, eq 72 71 13, mv 73 72,
 og 74 (.move (t 11)) 73 true, og 75 (.bin .eql (t 74) (ic 0)) 73 true, od 76 (.pick (t 73) (t 75) (.const (.bool false))), mv 69 76]
  (.cond (t 69)
  (sr [fa 77 6 2, ld 78 77, od 79 (.indexAddr 7 (t 78) (ic 2)), la 80 7 79,
 mv 81 1, ca 82 1328 321 [(t 80), (t 81)], ow (.store true 7 (t 4) (t 82))]
  .ret)
  (sr [fa 84 0 2, ld 85 84, eq 86 85 4, mv 87 86,
 og 88 (.move (t 10)) 87 true, og 89 (.bin .eql (t 88) (ic 1)) 87 true, od 90 (.pick (t 87) (t 89) (.const (.bool false))), mv 91 90,
 og 92 (.fieldAddr 0 (t 2)) 91 false, og 93 (.load false 1 (t 92)) 91 false, og 94 (.bin .eql (t 93) (ic 5)) 91 false, og 95 (.move (t 94)) 91 false,
 og 96 (.move (t 11)) 95 true, og 97 (.bin .eql (t 96) (ic 0)) 95 true, og 98 (.pick (t 95) (t 97) (.const (.bool false))) 91 false, od 99 (.pick (t 91) (.const (.bool true)) (t 98)),
 mv 83 99]
  (.cond (t 83)
  (sr [fa 100 6 2, ld 101 100, od 102 (.indexAddr 7 (t 101) (ic 1)), la 103 7 102,
 mv 104 1, ca 105 1696 321 [(t 103), (t 104)], ow (.store true 7 (t 4) (t 105))]
  .ret)
  .skip)))))))
  (sr [mc 10 0, mc 11 1]
  (.seq (sr [fa 106 0 2, ld 107 106, od 108 (.bin .neq (t 107) (ic 13))]
  (.cond (t 108)
  (rn [fa 110 6 2, ld 111 110, od 112 (.indexAddr 7 (t 111) (ic 1)), la 113 7 112,
 mv 114 1, ca 115 1856 342 [(t 113), (t 114)], mv 109 115, xt 116 109 0,
 xt 117 109 1, mv 10 116, mv 11 117])
  .skip))
  (sr [fa 118 0 2, ld 119 118, eq 120 119 4, mv 121 120,
 og 122 (.move (t 10)) 121 true, og 123 (.bin .eql (t 122) (ic 1)) 121 true, od 124 (.pick (t 121) (t 123) (.const (.bool false))), mv 125 124,
 og 126 (.fieldAddr 0 (t 2)) 125 false, og 127 (.load false 1 (t 126)) 125 false, og 128 (.bin .eql (t 127) (ic 5)) 125 false, og 129 (.move (t 128)) 125 false,
 og 130 (.move (t 11)) 129 true, og 131 (.bin .eql (t 130) (ic 0)) 129 true, og 132 (.pick (t 129) (t 131) (.const (.bool false))) 125 false, od 133 (.pick (t 125) (.const (.bool true)) (t 132))]
  (.cond (t 133)
  (sr [fa 134 6 2, ld 135 134, od 136 (.indexAddr 7 (t 135) (ic 0)), la 137 7 136,
 mv 138 1, ca 139 2240 321 [(t 137), (t 138)], ow (.store true 7 (t 4) (t 139))]
  .ret)
  .skip))))))
  .skip))
  (.seq (sr [mc 12 0]
  (.block 1 (.loop f321_l0)))
  (sr [la 158 7 9, ow (.store true 7 (t 4) (t 158))]
  .ret)))))))))
def f321 : AFunc := ⟨2, 159, [], [.cell 4 true 7], f321_b⟩
def f322_b : ACode :=
  (sr [od 2 (.new 48 9 (t 0)), od 4 (.move (.const (.bool false)))]
  (sr [mv 5 1, od 6 (.mkFunc 347 [(t 2)]), ca 7 128 346 [(t 5), (t 6)], od 8 (.un .not (t 7)),
 mv 4 8]
  .ret))
def f322 : AFunc := ⟨2, 9, [], [.tmp 4], f322_b⟩
abbrev f323_l0 : ACode :=
  (.seq (sr [mv 7 5, mv 8 1, ln 9 8, ls 10 7 9]
  (.cond (t 10)
  .skip
  (.exit 0)))
  (.seq (.block 1 (sr [mv 13 1, mv 14 5, od 15 (.indexAddr 4 (t 13) (t 14)), fa 16 0 15,
 ld 17 16, ca 18 304 351 [(t 17)]]
  (.block 2 (.seq (sr [eq 20 18 1, mv 19 20]
  (.cond (t 19)
  .skip
  (rn [eq 21 18 2, mv 19 21])))
  (.cond (t 19)
  (.seq (.drawn [la 22 9 2, mv 23 1, mv 24 5, op 25 (.indexAddr 4 (t 23) (t 24)) [1, 2],
 op 26 (.fieldAddr 0 (t 25)) [3], op 27 (.load false 1 (t 26)) [4], op 28 (.call 464 false (fc 337) [(t 22), (t 27)]) [0, 5], op 29 (.call 480 false (fc 352) [(t 28)]) [6, 6],
 op 6 (.move (t 29)) ([7, 7] ++ rg 8)])
  (sr [mv 30 6, mv 31 1, mv 32 5, od 33 (.indexAddr 4 (t 31) (t 32)),
 fa 34 1 33, ld 35 34, ls 36 30 35, mv 37 36,
 og 38 (.move (t 6)) 37 false, og 39 (.move (t 1)) 37 false, og 40 (.move (t 5)) 37 false, og 41 (.indexAddr 4 (t 39) (t 40)) 37 false,
 og 42 (.fieldAddr 2 (t 41)) 37 false, og 43 (.load false 1 (t 42)) 37 false, og 44 (.bin .gtr (t 38) (t 43)) 37 false, od 45 (.pick (t 37) (.const (.bool true)) (t 44))]
  (.cond (t 45)
  (sr [od 4 (.move (.const (.bool false)))]
  .ret)
  .skip)))
  (sr [eq 47 18 3, mv 46 47]
  (.cond (t 46)
  (.seq (.drawn [mv 48 1, mv 49 5, op 50 (.indexAddr 4 (t 48) (t 49)) [0, 1], op 51 (.fieldAddr 3 (t 50)) [2],
 op 52 (.load false 1 (t 51)) [3], la 53 9 2, mv 54 1, mv 55 5,
 op 56 (.indexAddr 4 (t 54) (t 55)) [6, 7], op 57 (.fieldAddr 0 (t 56)) [8], op 58 (.load false 1 (t 57)) [9], op 59 (.call 960 false (fc 337) [(t 53), (t 58)]) [5, 10],
 op 60 (.field false 3 1 (t 59)) [11], op 61 (.call 992 false (fc 353) [(t 52), (t 60)]) [4, 12, 11], op 62 (.un .not (t 61)) [13]])
  (.cond (t 62)
  (sr [od 4 (.move (.const (.bool false)))]
  .ret)
  .skip))
  .skip)))))))
  (rn [mv 11 5, ad 12 11 1, mv 5 12])))
def f323_b : ACode :=
  (sr [od 2 (.new 48 9 (t 0)), od 4 (.move (.const (.bool false)))]
  (.seq (sr [mc 5 0]
  (.block 0 (.loop f323_l0)))
  (sr [od 4 (.move (.const (.bool true)))]
  .ret)))
def f323 : AFunc := ⟨2, 63, [], [.tmp 4], f323_b⟩
def f331_b : ACode :=
  (sr [od 8 (.move (.const (.bool false)))]
  (sr [od 13 (.build [i0, i0, i0, .lit 1 []] [(0, 1, (ic 4)), (1, 1, (ic 5)), (2, 1, (ic 9))]), od 14 (.buildSlice 240 1 (.str []) 2 [(0, (.const (.str [116, 114, 101, 101]))), (1, (.const (.str [115, 104, 111, 112])))]), od 15 (.build [i0, i0, i0, .lit 1 []] [(0, 1, (ic 2)), (3, 1, (t 14))]), od 16 (.build [i0, i0, i0, .lit 1 []] [(0, 1, (ic 6))]),
 od 17 (.buildSlice 288 4 (.agg [i0, i0, i0, .nils]) 3 [(0, (t 13)), (1, (t 15)), (2, (t 16))]), od 9 (.ren 161 (t 17))]
  (sr [mv 19 0, ca 20 336 366 [(t 19)], mv 21 9, ca 22 368 317 [(t 20), (t 21)],
 mv 18 22, xt 23 18 0, xt 24 18 1, xt 25 18 2,
 mv 10 23, mv 11 24, mv 12 25]
  (sr [mv 26 0, ca 27 448 366 [(t 26)], mv 28 9, ca 29 480 320 [(t 27), (t 28)],
 mv 30 1, ca 31 512 366 [(t 30)], ca 32 528 319 [(t 29), (t 31)], mv 33 32,
 og 34 (.move (t 12)) 33 true, og 35 (.move (t 34)) 33 true, og 36 (.move (t 10)) 35 true, og 37 (.move (t 2)) 35 true,
 og 38 (.bin .eql (t 36) (t 37)) 35 true, og 39 (.pick (t 35) (t 38) (.const (.bool false))) 33 true, og 40 (.move (t 39)) 33 true, og 41 (.move (t 11)) 40 true,
 og 42 (.move (t 3)) 40 true, og 43 (.bin .eql (t 41) (t 42)) 40 true, og 44 (.pick (t 40) (t 43) (.const (.bool false))) 33 true, og 45 (.move (t 44)) 33 true,
 og 46 (.move (t 12)) 45 false, og 47 (.un .not (t 46)) 45 false, og 48 (.move (t 47)) 45 false, og 49 (.move (t 2)) 48 true,
 og 50 (.move (t 3)) 48 true, og 51 (.bin .gtr (t 49) (t 50)) 48 true, og 52 (.pick (t 48) (t 51) (.const (.bool false))) 45 false, og 53 (.pick (t 45) (.const (.bool true)) (t 52)) 33 true,
 od 54 (.pick (t 33) (t 53) (.const (.bool false))), mv 8 54]
  .ret))))
def f331 : AFunc := ⟨4, 55, [], [.tmp 8], f331_b⟩
def f85_b : ACode :=
  (sr [mc 4 0]
  (.seq (.seq (.drawn [mv 5 0, op 6 (.nilCheck (t 5)) [0], op 7 (.fieldAddr 1 (t 6)) [1], op 8 (.load false 1 (t 7)) [2],
 mv 9 0, op 10 (.nilCheck (t 9)) [4], op 11 (.fieldAddr 0 (t 10)) [5], op 12 (.load false 1 (t 11)) [6],
 op 13 (.len (t 12)) [7], op 14 (.bin .geq (t 8) (t 13)) [3, 8]])
  (.cond (t 14)
  (sr [mc 4 0]
  .ret)
  .skip))
  (sr [mv 15 0, od 16 (.nilCheck (t 15)), fa 17 1 16, ld 18 17,
 ad 19 18 1, od 20 (.nilCheck (t 15)), fa 21 1 20, ow (.store false 1 (t 21) (t 19))]
  (.seq (.drawn [mv 22 0, op 23 (.nilCheck (t 22)) [0], op 24 (.fieldAddr 0 (t 23)) [1], op 25 (.load false 1 (t 24)) [2],
 mv 26 0, op 27 (.nilCheck (t 26)) [4], op 28 (.fieldAddr 1 (t 27)) [5], op 29 (.load false 1 (t 28)) [6],
 op 30 (.bin .sub (t 29) (ic 1)) [7], op 31 (.indexAddr 1 (t 25) (t 30)) [3, 8], op 32 (.load false 1 (t 31)) [9], mv 33 1,
 op 34 (.call 560 false (fc 93) [(t 32), (t 33)]) [10, 11], op 4 (.move (t 34)) ([12, 12] ++ rg 13)])
  .ret))))
def f85 : AFunc := ⟨2, 35, [some 2, none], [.tmp 4], f85_b⟩
def f332_b : ACode :=
  (sr [od 0 (.move (.const (.lit 1 [])))]
  (sr [od 1 (.buildSlice 32 1 (.str []) 6 [(0, (.const (.str []))), (1, (.const (.str [116, 114, 101, 101]))), (2, (.const (.str [102, 105, 101, 108, 100]))), (3, (.const (.str [112, 97, 116, 104]))), (4, (.const (.str [77, 111, 111, 114]))), (5, (.const (.str [71, 97, 116, 101])))]), mv 0 1]
  .ret))
def f332 : AFunc := ⟨0, 2, [], [.tmp 0], f332_b⟩
def f333_b : ACode :=
  (sr [od 6 (.new 112 7 (.const zE))]
  (.seq (sr [mv 8 2, eq 9 8 0, mv 10 9, og 11 (.move (t 0)) 10 false,
 og 12 (.call 208 false (fc 85) [(t 11), (ic 5)]) 10 false, og 13 (.bin .eql (t 12) (ic 0)) 10 false, od 14 (.pick (t 10) (.const (.bool true)) (t 13))]
  (.cond (t 14)
  (sr [mv 15 0, mv 16 1, ca 17 288 367 [(t 15), (t 16)], ow (.store true 7 (t 6) (t 17))]
  .ret)
  .skip))
  (.seq (sr [mv 18 0, ca 19 320 85 [(t 18), (ic 6)], eq 20 19 0, mv 21 20,
 og 22 (.move (t 1)) 21 false, og 23 (.bin .eql (t 22) (ic 3)) 21 false, og 24 (.move (t 23)) 21 false, og 25 (.move (t 0)) 24 true,
 og 26 (.call 432 false (fc 85) [(t 25), (ic 3)]) 24 true, og 27 (.bin .eql (t 26) (ic 0)) 24 true, og 28 (.pick (t 24) (t 27) (.const (.bool false))) 21 false, od 29 (.pick (t 21) (.const (.bool true)) (t 28))]
  (.cond (t 29)
  (sr [mv 30 0, mv 31 2, od 32 (.bin .sub (t 31) (ic 1)), ca 33 544 333 [(t 30), (ic 2), (t 32)],
 mv 34 0, mv 35 1, mv 36 2, od 37 (.bin .sub (t 36) (ic 1)),
 ca 38 624 333 [(t 34), (t 35), (t 37)], mv 39 0, mv 40 1, ca 41 672 367 [(t 39), (t 40)],
 od 42 (.buildSlice 688 7 (.agg [i0, i0, i0, i0, .bool false, .str [], .nils]) 3 [(0, (t 33)), (1, (t 38)), (2, (t 41))]), od 43 (.build [i0, i0, i0, i0, .bool false, .str [], .lit 7 []] [(0, 1, (ic 13)), (6, 1, (t 42))]), ow (.store true 7 (t 6) (t 43))]
  .ret)
  .skip))
  (.seq (sr [mv 44 1, eq 45 44 3]
  (.cond (t 45)
  (sr [mv 46 0, mv 47 1, ca 48 784 367 [(t 46), (t 47)], ow (.store true 7 (t 6) (t 48))]
  .ret)
  .skip))
  (.seq (sr [mv 49 1, eq 50 49 1]
  (.cond (t 50)
  (sr [mv 51 0, ca 52 848 85 [(t 51), (ic 5)], od 53 (.bin .add (ic 8) (t 52)), mv 54 0,
 mv 55 1, mv 56 2, od 57 (.bin .sub (t 56) (ic 1)), ca 58 944 333 [(t 54), (t 55), (t 57)],
 mv 59 0, mv 60 1, mv 61 2, od 62 (.bin .sub (t 61) (ic 1)),
 ca 63 1024 333 [(t 59), (t 60), (t 62)], od 64 (.buildSlice 1040 7 (.agg [i0, i0, i0, i0, .bool false, .str [], .nils]) 2 [(0, (t 58)), (1, (t 63))]), od 65 (.build [i0, i0, i0, i0, .bool false, .str [], .lit 7 []] [(0, 1, (t 53)), (6, 1, (t 64))]), ow (.store true 7 (t 6) (t 65))]
  .ret)
  .skip))
  (.seq (sr [mv 66 0, ca 67 1088 85 [(t 66), (ic 6)]]
  (.block 0 (sr [eq 69 67 0, mv 68 69]
  (.cond (t 68)
  (sr [mv 70 0, mv 71 1, mv 72 2, od 73 (.bin .sub (t 72) (ic 1)),
 ca 74 1200 333 [(t 70), (t 71), (t 73)], od 75 (.buildSlice 1216 7 (.agg [i0, i0, i0, i0, .bool false, .str [], .nils]) 1 [(0, (t 74))]), od 76 (.build [i0, i0, i0, i0, .bool false, .str [], .lit 7 []] [(0, 1, (ic 3)), (6, 1, (t 75))]), ow (.store true 7 (t 6) (t 76))]
  .ret)
  (sr [eq 78 67 1, mv 77 78]
  (.cond (t 77)
  (sr [mv 79 0, ca 80 1296 85 [(t 79), (ic 3)], od 81 (.bin .add (ic 1) (t 80)), mv 7 81]
  (sr [mv 82 0, mv 83 7, mv 84 2, od 85 (.bin .sub (t 84) (ic 1)),
 ca 86 1392 333 [(t 82), (t 83), (t 85)], mv 87 0, mv 88 7, mv 89 2,
 od 90 (.bin .sub (t 89) (ic 1)), ca 91 1472 333 [(t 87), (t 88), (t 90)], od 92 (.buildSlice 1488 7 (.agg [i0, i0, i0, i0, .bool false, .str [], .nils]) 2 [(0, (t 86)), (1, (t 91))]), od 93 (.build [i0, i0, i0, i0, .bool false, .str [], .lit 7 []] [(0, 1, (ic 6)), (6, 1, (t 92))]),
 ow (.store true 7 (t 6) (t 93))]
  .ret))
  (sr [eq 95 67 2, mv 94 95]
  (.cond (t 94)
  (sr [mv 96 0, mv 97 2, od 98 (.bin .sub (t 97) (ic 1)), ca 99 1600 333 [(t 96), (ic 1), (t 98)],
 mv 100 0, mv 101 2, od 102 (.bin .sub (t 101) (ic 1)), ca 103 1664 333 [(t 100), (ic 1), (t 102)],
 od 104 (.buildSlice 1680 7 (.agg [i0, i0, i0, i0, .bool false, .str [], .nils]) 2 [(0, (t 99)), (1, (t 103))]), od 105 (.build [i0, i0, i0, i0, .bool false, .str [], .lit 7 []] [(0, 1, (ic 7)), (6, 1, (t 104))]), ow (.store true 7 (t 6) (t 105))]
  .ret)
  (sr [eq 107 67 3, mv 106 107]
  (.cond (t 106)
  (sr [mv 108 0, mv 109 1, mv 110 2, od 111 (.bin .sub (t 110) (ic 1)),
 ca 112 1808 333 [(t 108), (t 109), (t 111)], mv 113 0, mv 114 1, mv 115 2,
 od 116 (.bin .sub (t 115) (ic 1)), ca 117 1888 333 [(t 113), (t 114), (t 116)], od 118 (.buildSlice 1904 7 (.agg [i0, i0, i0, i0, .bool false, .str [], .nils]) 2 [(0, (t 112)), (1, (t 117))]), od 119 (.build [i0, i0, i0, i0, .bool false, .str [], .lit 7 []] [(0, 1, (ic 5)), (6, 1, (t 118))]),
 ow (.store true 7 (t 6) (t 119))]
  .ret)
  .skip))))))))))
  (sr [mv 120 0, mv 121 1, mv 122 2, od 123 (.bin .sub (t 122) (ic 1)),
 ca 124 2000 333 [(t 120), (t 121), (t 123)], mv 125 0, mv 126 1, mv 127 2,
 od 128 (.bin .sub (t 127) (ic 1)), ca 129 2080 333 [(t 125), (t 126), (t 128)], od 130 (.buildSlice 2096 7 (.agg [i0, i0, i0, i0, .bool false, .str [], .nils]) 2 [(0, (t 124)), (1, (t 129))]), od 131 (.build [i0, i0, i0, i0, .bool false, .str [], .lit 7 []] [(0, 1, (ic 4)), (6, 1, (t 130))]),
 ow (.store true 7 (t 6) (t 131))]
  .ret)))))))
def f333 : AFunc := ⟨3, 132, [some 2, none, none], [.cell 6 true 7], f333_b⟩
abbrev f334_l0 : ACode :=
  (.seq (sr [mv 7 4, fa 8 6 1, ld 9 8, ln 10 9,
 ls 11 7 10]
  (.cond (t 11)
  .skip
  (.exit 0)))
  (.seq (.block 1 (.drawn [fa 14 6 3, op 15 (.load false 1 (t 14)) [0], fa 16 6 1, op 17 (.load false 1 (t 16)) [2],
 mv 18 4, op 19 (.indexAddr 7 (t 17) (t 18)) [3, 4], op 20 (.load true 7 (t 19)) [5], op 21 (.call 352 false (fc 334) [(t 20)]) [6],
 op 22 (.buildSlice 368 7 (.agg [i0, i0, i0, i0, .bool false, .str [], .nils]) 1 [(0, (t 21))]) [7], op 23 (.append 69 7 1737499856038 (t 15) (t 22)) [1, 8, 7], op 24 (.fieldAddr 6 (t 3)) (rg 10), ⟨none, .store false 1 (t 24) (t 23), none, ([10, 9, 9] ++ rg 10)⟩]))
  (rn [mv 12 4, ad 13 12 1, mv 4 13])))
def f334_b : ACode :=
  (sr [od 1 (.new 32 7 (t 0)), od 2 (.new 48 7 (.const zE))]
  (sr [la 5 7 1, od 3 (.new 64 7 (.const (.agg [i0, i0, i0, i0, .bool false, .str [], .nils]))), ow (.store true 7 (t 3) (t 5))]
  (sr [fa 6 6 3, ow (.store false 1 (t 6) (.const (.nils)))]
  (.seq (sr [mc 4 0]
  (.block 0 (.loop f334_l0)))
  (sr [la 25 7 3, ow (.store true 7 (t 2) (t 25))]
  .ret)))))
def f334 : AFunc := ⟨1, 26, [], [.cell 2 true 7], f334_b⟩
def f93_b : ACode :=
  (sr [mc 4 0]
  (sr [mv 5 0, mv 6 1, od 7 (.bin .rem (t 5) (t 6)), mv 8 1,
 od 9 (.bin .add (t 7) (t 8)), mv 10 1, od 11 (.bin .rem (t 9) (t 10)), mv 4 11]
  .ret))
def f93 : AFunc := ⟨2, 12, [], [.tmp 4], f93_b⟩
def f335_b : ACode :=
  (sr [od 2 (.new 48 4 (.const (.agg [i0, i0, .bool false, .str []])))]
  (sr [mv 3 0, od 4 (.build [i0, i0, .bool false, .str []] [(0, 1, (ic 1)), (1, 1, (t 3))]), ow (.store true 4 (t 2) (t 4))]
  .ret))
def f335 : AFunc := ⟨1, 5, [], [.cell 2 true 4], f335_b⟩
def f336_b : ACode :=
  (sr [od 2 (.new 48 4 (.const (.agg [i0, i0, .bool false, .str []])))]
  (sr [mv 3 0, od 4 (.build [i0, i0, .bool false, .str []] [(0, 1, (ic 3)), (3, 1, (t 3))]), ow (.store true 4 (t 2) (t 4))]
  .ret))
def f336 : AFunc := ⟨1, 5, [], [.cell 2 true 4], f336_b⟩
def f337_b : ACode :=
  (sr [od 2 (.new 48 9 (t 0)), od 4 (.new 80 4 (.const (.agg [i0, i0, .bool false, .str []])))]
  (.seq (sr [mv 5 1]
  (.block 0 (sr [eq 7 5 1, mv 6 7]
  (.cond (t 6)
  (sr [fa 8 0 2, ld 9 8, ca 10 176 368 [(t 9)], ca 11 192 335 [(t 10)],
 ow (.store true 4 (t 4) (t 11))]
  .ret)
  (sr [eq 13 5 2, mv 12 13]
  (.cond (t 12)
  (sr [fa 14 1 2, ld 15 14, ca 16 272 336 [(t 15)], ow (.store true 4 (t 4) (t 16))]
  .ret)
  (sr [eq 18 5 3, mv 17 18]
  (.cond (t 17)
  (sr [fa 19 2 2, ld 20 19, ca 21 352 336 [(t 20)], ow (.store true 4 (t 4) (t 21))]
  .ret)
  (sr [eq 23 5 4, mv 22 23]
  (.cond (t 22)
  (sr [fa 24 3 2, ld 25 24, ca 26 432 368 [(t 25)], ca 27 448 335 [(t 26)],
 ow (.store true 4 (t 4) (t 27))]
  .ret)
  (sr [eq 29 5 5, mv 28 29]
  (.cond (t 28)
  (sr [fa 30 4 2, ld 31 30, ca 32 528 368 [(t 31)], ca 33 544 335 [(t 32)],
 ow (.store true 4 (t 4) (t 33))]
  .ret)
  (sr [eq 35 5 6, mv 34 35]
  (.cond (t 34)
  (sr [fa 36 5 2, ld 37 36, ca 38 624 369 [(t 37)], ow (.store true 4 (t 4) (t 38))]
  .ret)
  (sr [eq 40 5 7, mv 39 40]
  (.cond (t 39)
  (sr [fa 41 6 2, ld 42 41, ca 43 704 368 [(t 42)], ca 44 720 335 [(t 43)],
 ow (.store true 4 (t 4) (t 44))]
  .ret)
  (sr [eq 46 5 8, mv 45 46]
  (.cond (t 45)
  (sr [fa 47 7 2, ld 48 47, ca 49 800 368 [(t 48)], ca 50 816 335 [(t 49)],
 ow (.store true 4 (t 4) (t 50))]
  .ret)
  .skip))))))))))))))))))
  (sr [fa 51 8 2, ld 52 51, ca 53 864 368 [(t 52)], ca 54 880 335 [(t 53)],
 ow (.store true 4 (t 4) (t 54))]
  .ret)))
def f337 : AFunc := ⟨2, 55, [], [.cell 4 true 4], f337_b⟩
def f338_b : ACode :=
  (sr [od 1 (.new 32 7 (t 0)), mc 2 0, mc 3 0]
  (.seq (sr [la 5 7 1, ca 6 112 370 [(t 5)], od 7 (.bin .gtr (t 6) (ic 60))]
  (.cond (t 7)
  (sr [mc 2 0, mc 3 2]
  .ret)
  .skip))
  (sr [la 8 7 1, ca 9 160 371 [(t 8)], mv 4 9]
  (.seq (sr [mv 10 4, eq 11 10 0]
  (.cond (t 11)
  (sr [mc 2 0, mc 3 30]
  .ret)
  .skip))
  (sr [mv 12 4, mv 2 12, mc 3 0]
  .ret)))))
def f338 : AFunc := ⟨1, 13, [], [.tmp 2, .tmp 3], f338_b⟩
abbrev f339_l0 : ACode :=
  (sr [ls 35 34 33]
  (.seq (.cond (t 35)
  .skip
  (.exit 2))
  (.seq (.block 3 (sr [od 36 (.indexAddr 4 (t 32) (t 34)), la 37 4 36, od 9 (.new 160 4 (.const (.agg [i0, i0, i0, .lit 1 []]))), ow (.store true 4 (t 9) (t 37))]
  (rn [fa 38 0 6, ld 39 38, fa 40 1 9, ld 41 40,
 od 42 (.max [(t 39), (t 41)]), fa 43 1 6, ld 44 43, fa 45 2 9,
 ld 46 45, od 47 (.min [(t 44), (t 46)]), od 48 (.build [i0, i0, .lit 1 [], .bool false, .bool false] [(0, 1, (t 42)), (1, 1, (t 47))]), ow (.store true 5 (t 6) (t 48))])))
  (rn [ad 49 34 1, mv 34 49]))))
abbrev f339_l1 : ACode :=
  (.seq (sr [ld 11 4, od 12 (.bin .leq (t 11) (ic 9))]
  (.cond (t 12)
  .skip
  (.exit 0)))
  (.seq (.block 1 (sr [mv 15 0, od 16 (.call 272 true (fc 373) [(t 15)]), od 17 (.mkFunc 374 [(t 4)]), ca 18 304 372 [(t 16), (t 17)],
 od 5 (.ren 97 (t 18))]
  (.seq (sr [ld 19 4, ca 20 336 375 [(t 19)], eq 21 20 3]
  (.cond (t 21)
  (.seq (.drawn [mv 22 3, ld 23 4, mv 24 5, op 25 (.call 416 false (fc 376) [(t 24)]) [2],
 ⟨none, .mapUpd (some .i64) (t 22) (t 23) (t 25), none, [0, 1, 3, 3, 0, 1, 2, 3]⟩])
  (.exit 1))
  .skip))
  (sr [od 26 (.build [i0, i0, .lit 1 [], .bool false, .bool false] [(0, 1, (ic (-1073741824))), (1, 1, (ic 1073741824))]), od 6 (.new 112 5 (.const (.agg [i0, i0, .lit 1 [], .bool false, .bool false]))), ow (.store true 5 (t 6) (t 26))]
  (.seq (sr [ld 27 4, ca 28 464 375 [(t 27)], eq 29 28 2]
  (.cond (t 29)
  (rn [ca 30 496 377 [], ow (.store true 5 (t 6) (t 30))])
  .skip))
  (sr [la 31 5 6, od 7 (.new 128 5 (.const (.agg [i0, i0, .lit 1 [], .bool false, .bool false]))), ow (.store true 5 (t 7) (t 31))]
  (.seq (sr [mv 32 5, ln 33 32, mc 34 0]
  (.block 2 (.loop f339_l0)))
  (.seq (sr [fa 50 0 6, ld 51 50, fa 52 1 6, ld 53 52,
 od 54 (.bin .gtr (t 51) (t 53))]
  (.cond (t 54)
  (rn [la 55 5 7, ow (.store true 5 (t 6) (t 55))])
  .skip))
  (rn [mv 56 3, ld 57 4, la 58 5 6, ow (.mapUpd (some .i64) (t 56) (t 57) (t 58))])))))))))
  (.seq (sr [ld 59 4]
  (rn [od 4 (.new 80 1 (ic 0)), ow (.store false 1 (t 4) (t 59))]))
  (rn [ld 13 4, ad 14 13 1, ow (.store false 1 (t 4) (t 14))]))))
def f339_b : ACode :=
  (sr [od 2 (.frzM (.const (.mlit [])))]
  (sr [od 10 (.mkMap 176), mv 3 10]
  (.seq (sr [od 4 (.new 80 1 (ic 0)), ow (.store false 1 (t 4) (ic 1))]
  (.block 0 (.loop f339_l1)))
  (sr [mv 60 3, od 2 (.frzM (t 60))]
  .ret))))
def f339 : AFunc := ⟨1, 61, [], [.tmp 2], f339_b⟩
def f340_b : ACode :=
  (sr [od 3 (.new 64 7 (t 1)), od 4 (.new 80 5 (.const (.agg [i0, i0, .lit 1 [], .bool false, .bool false])))]
  (.seq (sr [fa 9 0 3, ld 10 9]
  (.block 0 (sr [eq 12 10 1, mv 11 12]
  (.cond (t 11)
  (sr [fa 13 2 3, la 14 4 13, ca 15 256 350 [(t 14)], ow (.store true 5 (t 4) (t 15))]
  .ret)
  (sr [eq 17 10 2, mv 16 17]
  (.cond (t 16)
  (sr [mv 18 0, fa 19 1 3, ld 20 19, od 21 (.mapGet (some .i64) false (.agg [i0, i0, .nils, .bool false, .bool false]) (t 18) (t 20)),
 ow (.store true 5 (t 4) (t 21))]
  .ret)
  (sr [eq 23 10 3, mv 22 23]
  (.cond (t 22)
  (sr [mv 24 0, fa 25 6 3, ld 26 25, od 27 (.indexAddr 7 (t 26) (ic 0)),
 la 28 7 27, ca 29 480 340 [(t 24), (t 28)], od 5 (.new 96 5 (.const (.agg [i0, i0, .lit 1 [], .bool false, .bool false]))), ow (.store true 5 (t 5) (t 29))]
  (sr [fa 30 1 5, ld 31 30, od 32 (.bin .sub (ic 1) (t 31)), fa 33 0 5,
 ld 34 33, od 35 (.bin .sub (ic 1) (t 34)), od 36 (.build [i0, i0, .lit 1 [], .bool false, .bool false] [(0, 1, (t 32)), (1, 1, (t 35))]), ow (.store true 5 (t 4) (t 36))]
  .ret))
  (sr [eq 38 10 13, mv 37 38]
  (.cond (t 37)
  (.seq (sr [mv 39 0, fa 40 6 3, ld 41 40, od 42 (.indexAddr 7 (t 41) (ic 0)),
 la 43 7 42, ca 44 720 340 [(t 39), (t 43)], od 6 (.new 112 5 (.const (.agg [i0, i0, .lit 1 [], .bool false, .bool false]))), ow (.store true 5 (t 6) (t 44))]
  (.block 1 (sr [fa 46 0 6, ld 47 46, eq 48 47 1, mv 45 48]
  (.cond (t 45)
  (sr [mv 49 0, fa 50 6 3, ld 51 50, od 52 (.indexAddr 7 (t 51) (ic 1)),
 la 53 7 52, ca 54 880 340 [(t 49), (t 53)], ow (.store true 5 (t 4) (t 54))]
  .ret)
  (sr [fa 56 1 6, ld 57 56, eq 58 57 0, mv 55 58]
  (.cond (t 55)
  (sr [mv 59 0, fa 60 6 3, ld 61 60, od 62 (.indexAddr 7 (t 61) (ic 2)),
 la 63 7 62, ca 64 1040 340 [(t 59), (t 63)], ow (.store true 5 (t 4) (t 64))]
  .ret)
  .skip))))))
  (.seq (.drawn [mv 65 0, fa 66 6 3, op 67 (.load false 1 (t 66)) [1], op 68 (.indexAddr 7 (t 67) (ic 1)) [2],
 op 69 (.load true 7 (t 68)) [3], op 70 (.call 1136 false (fc 340) [(t 65), (t 69)]) [0, 4], mv 71 0, fa 72 6 3,
 op 73 (.load false 1 (t 72)) [7], op 74 (.indexAddr 7 (t 73) (ic 2)) [8], op 75 (.load true 7 (t 74)) [9], op 76 (.call 1232 false (fc 340) [(t 71), (t 75)]) [6, 10, 5],
 op 77 (.call 1248 false (fc 378) [(t 70), (t 76)]) [5, 11, 11], ⟨none, .store true 5 (t 4) (t 77), none, ([12, 12] ++ rg 13)⟩])
  .ret))
  .skip))))))))))
  (sr [ca 78 1264 379 [], od 7 (.ren 129 (t 78))]
  (sr [mv 79 7, od 80 (.mkFunc 381 [(t 3)]), ca 81 1312 380 [(t 79), (t 80)], mv 8 81]
  (.seq (.drawn [mv 82 7, mv 83 8, op 84 (.indexAddr 2 (t 82) (t 83)) [0, 1], op 85 (.fieldAddr 1 (t 84)) [2],
 op 86 (.load false 1 (t 85)) [3], mv 87 0, fa 88 6 3, op 89 (.load false 1 (t 88)) [6],
 op 90 (.indexAddr 7 (t 89) (ic 0)) [7], op 91 (.load true 7 (t 90)) [8], op 92 (.call 1488 false (fc 340) [(t 87), (t 91)]) [5, 9], mv 93 0,
 fa 94 6 3, op 95 (.load false 1 (t 94)) [12], op 96 (.indexAddr 7 (t 95) (ic 1)) [13], op 97 (.load true 7 (t 96)) [14],
 op 98 (.call 1584 false (fc 340) [(t 93), (t 97)]) [11, 15, 10], op 99 (.call 1600 false (t 86) [(t 92), (t 98)]) [4, 10, 16, 16], ⟨none, .store true 5 (t 4) (t 99), none, ([17, 17] ++ rg 18)⟩])
  .ret)))))
def f340 : AFunc := ⟨2, 100, [], [.cell 4 true 5], f340_b⟩
def f341_b : ACode :=
  (sr [od 1 (.new 32 7 (t 0)), mc 2 0, mc 3 0]
  (.seq (sr [la 5 7 1, ca 6 112 382 [(t 5)], od 7 (.bin .gtr (t 6) (ic 60))]
  (.cond (t 7)
  (sr [mc 2 0, mc 3 2]
  .ret)
  .skip))
  (sr [la 8 7 1, ca 9 160 383 [(t 8)], mv 4 9]
  (.seq (sr [mv 10 4, eq 11 10 0]
  (.cond (t 11)
  (sr [mc 2 0, mc 3 30]
  .ret)
  .skip))
  (sr [mv 12 4, mv 2 12, mc 3 0]
  .ret)))))
def f341 : AFunc := ⟨1, 13, [], [.tmp 2, .tmp 3], f341_b⟩
def f342_b : ACode :=
  (sr [od 2 (.new 48 7 (t 0)), mc 4 0, mc 5 0]
  (.seq (sr [fa 17 0 2, ld 18 17]
  (.block 0 (sr [eq 20 18 1, mv 19 20]
  (.cond (t 19)
  (sr [fa 21 2 2, la 22 4 21, ca 23 384 352 [(t 22)], mv 6 23]
  (sr [mv 24 6, mv 25 6, mv 4 24, mv 5 25]
  .ret))
  (sr [eq 27 18 2, mv 26 27]
  (.cond (t 26)
  (sr [mv 28 1, fa 29 1 2, ld 30 29, ca 31 512 384 [(t 28), (t 30)],
 xt 32 31 0, xt 33 31 1, mv 4 32, mv 5 33]
  .ret)
  (sr [eq 35 18 6, mv 34 35]
  (.cond (t 34)
  (sr [fa 37 6 2, ld 38 37, od 39 (.indexAddr 7 (t 38) (ic 0)), la 40 7 39,
 ca 41 672 341 [(t 40)], mv 36 41, xt 42 36 0, xt 43 36 1,
 mv 7 42, mv 8 43]
  (sr [mv 44 7, eq 45 44 3]
  (.cond (t 45)
  (sr [la 46 7 2, mv 47 1, ca 48 784 385 [(t 46), (t 47)], xt 49 48 0,
 xt 50 48 1, mv 4 49, mv 5 50]
  .ret)
  .skip)))
  .skip))))))))
  (sr [fa 52 6 2, ld 53 52, od 54 (.indexAddr 7 (t 53) (ic 0)), la 55 7 54,
 mv 56 1, ca 57 928 342 [(t 55), (t 56)], mv 51 57, xt 58 51 0,
 xt 59 51 1, mv 9 58, mv 10 59]
  (.seq (sr [fa 60 0 2, ld 61 60]
  (.block 1 (sr [eq 63 61 3, mv 62 63]
  (.cond (t 62)
  (sr [mv 64 10, od 65 (.bin .sub (ic 1) (t 64)), mv 66 9, od 67 (.bin .sub (ic 1) (t 66)),
 mv 4 65, mv 5 67]
  .ret)
  (sr [eq 69 61 13, mv 68 69]
  (.cond (t 68)
  (sr [fa 71 6 2, ld 72 71, od 73 (.indexAddr 7 (t 72) (ic 1)), la 74 7 73,
 mv 75 1, ca 76 1232 342 [(t 74), (t 75)], mv 70 76, xt 77 70 0,
 xt 78 70 1, mv 11 77, mv 12 78]
  (sr [fa 80 6 2, ld 81 80, od 82 (.indexAddr 7 (t 81) (ic 2)), la 83 7 82,
 mv 84 1, ca 85 1376 342 [(t 83), (t 84)], mv 79 85, xt 86 79 0,
 xt 87 79 1, mv 13 86, mv 14 87]
  (.seq (sr [mv 88 9, eq 89 88 1]
  (.cond (t 89)
  (sr [mv 90 11, mv 91 12, mv 4 90, mv 5 91]
  .ret)
  .skip))
  (.seq (sr [mv 92 10, eq 93 92 0]
  (.cond (t 93)
  (sr [mv 94 13, mv 95 14, mv 4 94, mv 5 95]
  .ret)
  .skip))
  (sr [mv 96 11, mv 97 13, od 98 (.min [(t 96), (t 97)]), mv 99 12,
 mv 100 14, od 101 (.max [(t 99), (t 100)]), mv 4 98, mv 5 101]
  .ret)))))
  .skip))))))
  (sr [fa 103 6 2, ld 104 103, od 105 (.indexAddr 7 (t 104) (ic 1)), la 106 7 105,
 mv 107 1, ca 108 1744 342 [(t 106), (t 107)], mv 102 108, xt 109 102 0,
 xt 110 102 1, mv 15 109, mv 16 110]
  (.seq (sr [fa 111 0 2, ld 112 111]
  (.block 2 (.seq (sr [eq 114 112 4, mv 113 114]
  (.cond (t 113)
  .skip
  (rn [eq 115 112 11, mv 113 115])))
  (.cond (t 113)
  (sr [mv 116 9, mv 117 15, od 118 (.min [(t 116), (t 117)]), mv 119 10,
 mv 120 16, od 121 (.min [(t 119), (t 120)]), mv 4 118, mv 5 121]
  .ret)
  (.seq (sr [eq 123 112 5, mv 122 123]
  (.cond (t 122)
  .skip
  (rn [eq 124 112 12, mv 122 124])))
  (.cond (t 122)
  (sr [mv 125 9, mv 126 15, od 127 (.max [(t 125), (t 126)]), mv 128 10,
 mv 129 16, od 130 (.max [(t 128), (t 129)]), mv 4 127, mv 5 130]
  .ret)
  (sr [eq 132 112 6, mv 131 132]
  (.cond (t 131)
  (.seq (sr [mv 133 10, mv 134 15, ls 135 133 134, mv 136 135,
 og 137 (.move (t 16)) 136 false, og 138 (.move (t 9)) 136 false, og 139 (.bin .lss (t 137) (t 138)) 136 false, od 140 (.pick (t 136) (.const (.bool true)) (t 139))]
  (.cond (t 140)
  (sr [mc 4 0, mc 5 0]
  .ret)
  .skip))
  (.seq (sr [mv 141 9, mv 142 10, od 143 (.bin .eql (t 141) (t 142)), mv 144 143,
 og 145 (.move (t 15)) 144 true, og 146 (.move (t 16)) 144 true, og 147 (.bin .eql (t 145) (t 146)) 144 true, od 148 (.pick (t 144) (t 147) (.const (.bool false)))]
  (.cond (t 148)
  (sr [mc 4 1, mc 5 1]
  .ret)
  .skip))
  (sr [mc 4 0, mc 5 1]
  .ret)))
  (sr [eq 150 112 7, mv 149 150]
  (.cond (t 149)
  (.seq (sr [mv 151 10, mv 152 15, ls 153 151 152]
  (.cond (t 153)
  (sr [mc 4 1, mc 5 1]
  .ret)
  .skip))
  (.seq (sr [mv 154 9, mv 155 16, od 156 (.bin .geq (t 154) (t 155))]
  (.cond (t 156)
  (sr [mc 4 0, mc 5 0]
  .ret)
  .skip))
  (sr [mc 4 0, mc 5 1]
  .ret)))
  (sr [eq 158 112 8, mv 157 158]
  (.cond (t 157)
  (sr [mv 159 9, mv 160 15, od 161 (.bin .add (t 159) (t 160)), ca 162 2608 368 [(t 161)],
 mv 163 10, mv 164 16, od 165 (.bin .add (t 163) (t 164)), ca 166 2672 368 [(t 165)],
 mv 4 162, mv 5 166]
  .ret)
  (sr [eq 168 112 9, mv 167 168]
  (.cond (t 167)
  (sr [mv 169 9, mv 170 16, od 171 (.bin .sub (t 169) (t 170)), ca 172 2768 368 [(t 171)],
 mv 173 10, mv 174 15, od 175 (.bin .sub (t 173) (t 174)), ca 176 2832 368 [(t 175)],
 mv 4 172, mv 5 176]
  .ret)
  .skip))))))))))))))
  (sr [mv 177 9, mv 178 10, mv 179 15, mv 180 16,
 ca 181 2912 386 [(t 177), (t 178), (t 179), (t 180)], xt 182 181 0, xt 183 181 1, mv 4 182,
 mv 5 183]
  .ret)))))))
def f342 : AFunc := ⟨2, 184, [], [.tmp 4, .tmp 5], f342_b⟩
abbrev f343_l0 : ACode :=
  (sr [ls 12 11 10]
  (.seq (.cond (t 12)
  .skip
  (.exit 0))
  (.seq (.block 1 (sr [od 13 (.indexAddr 7 (t 9) (t 11)), la 14 7 13, od 5 (.new 96 7 (.const zE)), ow (.store true 7 (t 5) (t 14))]
  (.drawn [fa 15 6 1, op 16 (.load false 1 (t 15)) [0], la 17 7 5, op 18 (.call 304 false (fc 343) [(t 17)]) [2],
 op 19 (.buildSlice 320 7 (.agg [i0, i0, i0, i0, .bool false, .str [], .nils]) 1 [(0, (t 18))]) [3], op 20 (.append 37 7 1737499856038 (t 16) (t 19)) [1, 4, 3], op 21 (.fieldAddr 6 (t 1)) (rg 6), ⟨none, .store false 1 (t 21) (t 20), none, ([6, 5, 5] ++ rg 6)⟩])))
  (rn [ad 22 11 1, mv 11 22]))))
def f343_b : ACode :=
  (sr [od 1 (.new 32 7 (t 0)), od 2 (.new 48 7 (.const zE))]
  (sr [fa 6 6 1, ld 7 6, mv 3 7]
  (sr [fa 8 6 1, ow (.store false 1 (t 8) (.const (.nils)))]
  (.seq (sr [mv 9 3, ln 10 9, mc 11 0]
  (.block 0 (.loop f343_l0)))
  (sr [la 23 7 1, ow (.store true 7 (t 2) (t 23))]
  .ret)))))
def f343 : AFunc := ⟨1, 24, [], [.cell 2 true 7], f343_b⟩
abbrev f344_l0 : ACode :=
  (sr [od 62 (.bin .lss (t 61) (ic 2))]
  (.seq (.cond (t 62)
  .skip
  (.exit 2))
  (.seq (.block 3 (sr [mv 63 61, mv 10 63]
  (sr [mv 64 0, fa 65 6 3, ld 66 65, mv 67 10,
 od 68 (.indexAddr 7 (t 66) (t 67)), la 69 7 68, ca 70 1136 340 [(t 64), (t 69)], od 71 (.field false 0 1 (t 70)),
 eq 72 71 1]
  (.cond (t 72)
  (sr [mv 73 0, fa 74 6 3, ld 75 74, mv 76 10,
 od 77 (.bin .sub (ic 1) (t 76)), od 78 (.indexAddr 7 (t 75) (t 77)), la 79 7 78, ca 80 1296 344 [(t 73), (t 79)],
 ow (.store true 7 (t 4) (t 80))]
  .ret)
  .skip))))
  (rn [ad 81 61 1, mv 61 81]))))
abbrev f344_l1 : ACode :=
  (sr [od 85 (.bin .lss (t 84) (ic 2))]
  (.seq (.cond (t 85)
  .skip
  (.exit 4))
  (.seq (.block 5 (sr [mv 86 84, mv 11 86]
  (sr [mv 87 0, fa 88 6 3, ld 89 88, mv 90 11,
 od 91 (.indexAddr 7 (t 89) (t 90)), la 92 7 91, ca 93 1504 340 [(t 87), (t 92)], od 94 (.field false 1 1 (t 93)),
 eq 95 94 0]
  (.cond (t 95)
  (sr [mv 96 0, fa 97 6 3, ld 98 97, mv 99 11,
 od 100 (.bin .sub (ic 1) (t 99)), od 101 (.indexAddr 7 (t 98) (t 100)), la 102 7 101, ca 103 1664 344 [(t 96), (t 102)],
 ow (.store true 7 (t 4) (t 103))]
  .ret)
  .skip))))
  (rn [ad 104 84 1, mv 84 104]))))
abbrev f344_l2 : ACode :=
  (sr [ls 111 110 109]
  (.seq (.cond (t 111)
  .skip
  (.exit 6))
  (.seq (.block 7 (sr [od 112 (.indexAddr 7 (t 108) (t 110)), la 113 7 112, od 14 (.new 240 7 (.const zE)), ow (.store true 7 (t 14) (t 113))]
  (.drawn [fa 114 6 3, op 115 (.load false 1 (t 114)) [0], mv 116 0, la 117 7 14,
 op 118 (.call 1904 false (fc 344) [(t 116), (t 117)]) [2, 3], op 119 (.buildSlice 1920 7 (.agg [i0, i0, i0, i0, .bool false, .str [], .nils]) 1 [(0, (t 118))]) [4], op 120 (.append 69 7 1737499856038 (t 115) (t 119)) [1, 5, 4], op 121 (.fieldAddr 6 (t 3)) (rg 7),
 ⟨none, .store false 1 (t 121) (t 120), none, ([7, 6, 6] ++ rg 7)⟩])))
  (rn [ad 122 110 1, mv 110 122]))))
def f344_b : ACode :=
  (sr [od 3 (.new 64 7 (t 1)), od 4 (.new 80 7 (.const zE))]
  (sr [la 16 7 3, ca 17 288 338 [(t 16)], mv 15 17, xt 18 15 0,
 xt 19 15 1, mv 5 18, mv 6 19]
  (.seq (sr [mv 21 0, la 22 7 3, mv 23 5, ca 24 400 387 [(t 21), (t 22), (t 23)],
 mv 20 24, xt 25 20 0, xt 26 20 1, od 7 (.new 128 7 (.const zE)),
 ow (.store true 7 (t 7) (t 25)), mv 8 26]
  (sr [mv 27 8]
  (.cond (t 27)
  (sr [la 28 7 7, ow (.store true 7 (t 4) (t 28))]
  .ret)
  .skip)))
  (.seq (sr [fa 29 0 3, ld 30 29]
  (.block 0 (sr [eq 32 30 13, mv 31 32]
  (.cond (t 31)
  (sr [mv 33 0, fa 34 6 3, ld 35 34, od 36 (.indexAddr 7 (t 35) (ic 0)),
 la 37 7 36, ca 38 624 340 [(t 33), (t 37)], od 9 (.new 160 5 (.const (.agg [i0, i0, .lit 1 [], .bool false, .bool false]))), ow (.store true 5 (t 9) (t 38))]
  (.block 1 (sr [fa 40 0 9, ld 41 40, eq 42 41 1, mv 39 42]
  (.cond (t 39)
  (sr [mv 43 0, fa 44 6 3, ld 45 44, od 46 (.indexAddr 7 (t 45) (ic 1)),
 la 47 7 46, ca 48 784 344 [(t 43), (t 47)], ow (.store true 7 (t 4) (t 48))]
  .ret)
  (sr [fa 50 1 9, ld 51 50, eq 52 51 0, mv 49 52]
  (.cond (t 49)
  (sr [mv 53 0, fa 54 6 3, ld 55 54, od 56 (.indexAddr 7 (t 55) (ic 2)),
 la 57 7 56, ca 58 944 344 [(t 53), (t 57)], ow (.store true 7 (t 4) (t 58))]
  .ret)
  .skip))))))
  (sr [eq 60 30 4, mv 59 60]
  (.cond (t 59)
  (sr [mc 61 0]
  (.block 2 (.loop f344_l0)))
  (sr [eq 83 30 5, mv 82 83]
  (.cond (t 82)
  (sr [mc 84 0]
  (.block 4 (.loop f344_l1)))
  .skip))))))))
  (sr [fa 105 6 3, ld 106 105, mv 12 106]
  (sr [fa 107 6 3, ow (.store false 1 (t 107) (.const (.nils)))]
  (.seq (sr [mv 108 12, ln 109 108, mc 110 0]
  (.block 6 (.loop f344_l2)))
  (sr [la 123 7 3, ow (.store true 7 (t 4) (t 123))]
  .ret))))))))
def f344 : AFunc := ⟨2, 124, [], [.cell 4 true 7], f344_b⟩
def f345_b : ACode :=
  (sr [od 3 (.new 64 7 (t 0)), od 6 (.new 112 7 (.const zE)), od 7 (.move (.const (.bool false)))]
  (sr [od 13 (.build [i0, i0, i0, i0, .bool false, .str [], .lit 7 []] [(0, 1, (ic 1))]), od 8 (.new 144 7 (.const zE)), ow (.store true 7 (t 8) (t 13))]
  (.seq (sr [mv 14 1, eq 15 14 3]
  (.cond (t 15)
  (sr [la 17 7 3, mv 18 2, ca 19 320 388 [(t 17), (t 18)], mv 16 19,
 xt 20 16 0, xt 21 16 1, mv 9 20, mv 10 21]
  (.seq (sr [mv 22 10, od 23 (.un .not (t 22)), mv 24 23, og 25 (.move (t 9)) 24 false,
 og 26 (.len (t 25)) 24 false, og 27 (.bin .neq (t 26) (ic 1)) 24 false, od 28 (.pick (t 24) (.const (.bool true)) (t 27))]
  (.cond (t 28)
  (sr [la 29 7 8, ow (.store true 7 (t 6) (t 29)), od 7 (.move (.const (.bool false)))]
  .ret)
  .skip))
  (sr [mv 30 9, od 31 (.indexAddr 1 (t 30) (ic 0)), ld 32 31, ca 33 544 336 [(t 32)],
 fa 34 2 8, ow (.store true 4 (t 34) (t 33))]
  (.seq (.drawn [la 35 7 8, fa 36 2 8, op 37 (.load true 4 (t 36)) [1], op 38 (.call 624 false (fc 389) [(t 37)]) [2],
 ⟨none, .store true 7 (t 6) (t 35), none, [0, 3, 0]⟩, op 7 (.move (t 38)) ([3, 4] ++ rg 5)])
  .ret))))
  .skip))
  (sr [la 40 7 3, mv 41 2, ca 42 688 342 [(t 40), (t 41)], mv 39 42,
 xt 43 39 0, xt 44 39 1, mv 11 43, mv 12 44]
  (sr [mv 45 11, ca 46 752 335 [(t 45)], fa 47 2 8, ow (.store true 4 (t 47) (t 46))]
  (.seq (sr [mv 48 1, eq 49 48 2]
  (.cond (t 49)
  (rn [mv 50 11, eq 51 50 1, ca 52 848 369 [(t 51)], fa 53 2 8,
 ow (.store true 4 (t 53) (t 52))])
  .skip))
  (sr [la 54 7 8, mv 55 11, mv 56 12, od 57 (.bin .eql (t 55) (t 56)),
 ow (.store true 7 (t 6) (t 54)), mv 7 57]
  .ret)))))))
def f345 : AFunc := ⟨3, 58, [], [.cell 6 true 7, .tmp 7], f345_b⟩
def f346_b : ACode :=
  (sr [od 4 (.move (.const (.bool false)))]
  (sr [mv 5 0, mv 6 1, ca 7 128 390 [(t 5), (t 6)], od 8 (.bin .geq (t 7) (ic 0)),
 mv 4 8]
  .ret))
def f346 : AFunc := ⟨2, 9, [], [.tmp 4], f346_b⟩
def f347_b : ACode :=
  (sr [od 2 (.new 48 4 (t 0)), od 3 (.move (.const (.bool false)))]
  (sr [fa 8 0 2, ld 9 8, od 10 (.build [i0, i0, i0, i0, .bool false, .str [], .lit 7 []] [(0, 1, (ic 2)), (1, 1, (t 9))]), la 11 9 1,
 ca 12 208 348 [(t 10), (t 11)], mv 7 12, xt 13 7 0, xt 14 7 1,
 od 4 (.new 80 4 (.const (.agg [i0, i0, .bool false, .str []]))), ow (.store true 4 (t 4) (t 13)), mv 5 14]
  (.seq (sr [mv 15 5, od 16 (.bin .neq (t 15) (ic 0))]
  (.cond (t 16)
  (sr [od 3 (.move (.const (.bool false)))]
  .ret)
  .skip))
  (.seq (sr [fa 17 0 4, ld 18 17, eq 19 18 3]
  (.cond (t 19)
  (sr [fa 20 3 2, ld 21 20, fa 22 3 4, ld 23 22,
 ca 24 400 349 [(t 21), (t 23)], od 25 (.un .not (t 24)), mv 3 25]
  .ret)
  .skip))
  (sr [la 26 4 4, ca 27 448 350 [(t 26)], od 28 (.field false 0 1 (t 27)), mv 6 28]
  (sr [mv 29 6, fa 30 1 2, ld 31 30, ls 32 29 31,
 mv 33 32, og 34 (.move (t 6)) 33 false, og 35 (.fieldAddr 2 (t 2)) 33 false, og 36 (.load false 1 (t 35)) 33 false,
 og 37 (.bin .gtr (t 34) (t 36)) 33 false, od 38 (.pick (t 33) (.const (.bool true)) (t 37)), mv 3 38]
  .ret))))))
def f347 : AFunc := ⟨2, 39, [], [.tmp 3], f347_b⟩
def f348_b : ACode :=
  (sr [od 2 (.new 48 7 (t 0)), od 3 (.new 64 9 (t 1)), od 4 (.new 80 4 (.const (.agg [i0, i0, .bool false, .str []]))), mc 5 0]
  (.seq (sr [la 9 7 2, ca 10 176 338 [(t 9)], mv 8 10, xt 11 8 0,
 xt 12 8 1, mv 6 11, mv 7 12]
  (sr [mv 13 7, od 14 (.bin .neq (t 13) (ic 0))]
  (.cond (t 14)
  (sr [od 15 (.build [i0, i0, .bool false, .str []] []), mv 16 7, ow (.store true 4 (t 4) (t 15)), mv 5 16]
  .ret)
  .skip)))
  (sr [la 17 7 2, la 18 9 3, ca 19 320 392 [(t 17), (t 18)], ca 20 336 391 [(t 19)],
 ow (.store true 4 (t 4) (t 20)), mc 5 0]
  .ret)))
def f348 : AFunc := ⟨2, 21, [], [.cell 4 true 4, .tmp 5], f348_b⟩
def f349_b : ACode :=
  (sr [od 4 (.move (.const (.bool false)))]
  (sr [mv 5 0, mv 6 1, ca 7 128 393 [(t 5), (t 6)], od 8 (.bin .geq (t 7) (ic 0)),
 mv 4 8]
  .ret))
def f349 : AFunc := ⟨2, 9, [], [.tmp 4], f349_b⟩
def f350_b : ACode :=
  (sr [od 1 (.new 32 4 (t 0)), od 2 (.new 48 5 (.const (.agg [i0, i0, .lit 1 [], .bool false, .bool false])))]
  (.seq (sr [fa 3 0 1, ld 4 3]
  (.block 0 (sr [eq 6 4 3, mv 5 6]
  (.cond (t 5)
  (sr [fa 7 3 1, ld 8 7, od 9 (.buildSlice 160 1 (.str []) 1 [(0, (t 8))]), od 10 (.build [i0, i0, .lit 1 [], .bool false, .bool false] [(2, 1, (t 9)), (3, 1, (.const (.bool true))), (4, 1, (.const (.bool true)))]),
 ow (.store true 5 (t 2) (t 10))]
  .ret)
  (sr [eq 12 4 2, mv 11 12]
  (.cond (t 11)
  (.seq (sr [fa 13 2 1, ld 14 13]
  (.cond (t 14)
  (sr [ca 15 256 394 [], ow (.store true 5 (t 2) (t 15))]
  .ret)
  .skip))
  (sr [ca 16 272 395 [], ow (.store true 5 (t 2) (t 16))]
  .ret))
  .skip))))))
  (sr [fa 17 1 1, ld 18 17, fa 19 1 1, ld 20 19,
 od 21 (.build [i0, i0, .lit 1 [], .bool false, .bool false] [(0, 1, (t 18)), (1, 1, (t 20))]), ow (.store true 5 (t 2) (t 21))]
  .ret)))
def f350 : AFunc := ⟨1, 22, [], [.cell 2 true 5], f350_b⟩
def f351_b : ACode :=
  (sr [mc 2 0]
  (.seq (sr [mv 3 0, od 4 (.bin .lss (t 3) (ic 1)), mv 5 4, og 6 (.move (t 0)) 5 false,
 og 7 (.bin .gtr (t 6) (ic 9)) 5 false, od 8 (.pick (t 5) (.const (.bool true)) (t 7))]
  (.cond (t 8)
  (sr [mc 2 0]
  .ret)
  .skip))
  (sr [od 9 (.buildSlice 160 1 (i0) 9 [(0, (ic 1)), (1, (ic 3)), (2, (ic 3)), (3, (ic 1)), (4, (ic 1)), (5, (ic 2)), (6, (ic 1)), (7, (ic 1)), (8, (ic 1))]), mv 10 0, od 11 (.bin .sub (t 10) (ic 1)), od 12 (.indexAddr 1 (t 9) (t 11)),
 ld 13 12, mv 2 13]
  .ret)))
def f351 : AFunc := ⟨1, 14, [], [.tmp 2], f351_b⟩
def f352_b : ACode :=
  (sr [od 1 (.new 32 4 (t 0)), mc 2 0]
  (.seq (sr [fa 3 2 1, ld 4 3]
  (.cond (t 4)
  (sr [mc 2 1]
  .ret)
  .skip))
  (sr [fa 5 1 1, ld 6 5, mv 2 6]
  .ret)))
def f352 : AFunc := ⟨1, 7, [], [.tmp 2], f352_b⟩
abbrev f353_l0 : ACode :=
  (.seq (sr [mv 6 5, mv 7 0, ln 8 7, ls 9 6 8]
  (.cond (t 9)
  .skip
  (.exit 0)))
  (.seq (.block 1 (sr [mv 12 0, mv 13 5, od 14 (.indexAddr 1 (t 12) (t 13)), ld 15 14,
 mv 16 1, od 17 (.bin .eql (t 15) (t 16))]
  (.cond (t 17)
  (sr [od 4 (.move (.const (.bool true)))]
  .ret)
  .skip)))
  (rn [mv 10 5, ad 11 10 1, mv 5 11])))
def f353_b : ACode :=
  (sr [od 4 (.move (.const (.bool false)))]
  (.seq (sr [mc 5 0]
  (.block 0 (.loop f353_l0)))
  (sr [od 4 (.move (.const (.bool false)))]
  .ret)))
def f353 : AFunc := ⟨2, 18, [], [.tmp 4], f353_b⟩
def f366_b : ACode :=
  (sr [od 2 (.new 48 7 (.const zE))]
  (sr [mv 6 0, ca 7 128 400 [(t 6)], mv 5 7, xt 8 5 0,
 xt 9 5 1, od 3 (.new 64 7 (.const zE)), ow (.store true 7 (t 3) (t 8)), mv 4 9]
  (sr [la 10 7 3, ow (.store true 7 (t 2) (t 10))]
  .ret)))
def f366 : AFunc := ⟨1, 11, [], [.cell 2 true 7], f366_b⟩
abbrev f367_l0 : ACode :=
  (.seq (sr [mv 11 6, od 12 (.bin .leq (t 11) (ic 9))]
  (.cond (t 12)
  .skip
  (.exit 0)))
  (.seq (.block 1 (sr [mv 15 6, ca 16 272 351 [(t 15)], mv 17 1, od 18 (.bin .eql (t 16) (t 17))]
  (.cond (t 18)
  (rn [mv 19 5, mv 20 6, od 21 (.buildSlice 352 1 (i0) 1 [(0, (t 20))]), od 22 (.append 97 1 15637498705947 (t 19) (t 21)),
 od 5 (.ren 97 (t 22))])
  .skip)))
  (rn [mv 13 6, ad 14 13 1, mv 6 14])))
def f367_b : ACode :=
  (sr [od 4 (.new 80 7 (.const zE))]
  (.seq (sr [mv 8 0, ca 9 160 85 [(t 8), (ic 2)], eq 10 9 0]
  (.cond (t 10)
  (sr [od 5 (.emptyBuf 97 1)]
  (.seq (sr [mc 6 1]
  (.block 0 (.loop f367_l0)))
  (sr [mv 23 5, mv 24 0, mv 25 5, ln 26 25,
 ca 27 448 85 [(t 24), (t 26)], od 28 (.indexAddr 1 (t 23) (t 27)), ld 29 28, od 30 (.build [i0, i0, i0, i0, .bool false, .str [], .lit 7 []] [(0, 1, (ic 2)), (1, 1, (t 29))]),
 ow (.store true 7 (t 4) (t 30))]
  .ret)))
  .skip))
  (sr [od 31 (.build [i0, i0, i0, i0, .bool false, .str [], .lit 7 []] [(0, 1, (ic 1))]), od 7 (.new 128 7 (.const zE)), ow (.store true 7 (t 7) (t 31))]
  (.seq (sr [mv 32 1]
  (.block 2 (sr [eq 34 32 1, mv 33 34]
  (.cond (t 33)
  (rn [od 35 (.buildSlice 576 1 (i0) 11 [(0, (ic 0)), (1, (ic 1)), (2, (ic 2)), (3, (ic 3)), (4, (ic 9)), (5, (ic 32)), (6, (ic (-1))), (7, (ic (-7))), (8, (ic 1000)), (9, (ic 1073741824)), (10, (ic (-1073741824)))]), mv 36 0, ca 37 608 85 [(t 36), (ic 11)], od 38 (.indexAddr 1 (t 35) (t 37)),
 ld 39 38, ca 40 656 335 [(t 39)], fa 41 2 7, ow (.store true 4 (t 41) (t 40))])
  (sr [eq 43 32 2, mv 42 43]
  (.cond (t 42)
  (rn [mv 44 0, ca 45 736 85 [(t 44), (ic 2)], eq 46 45 1, ca 47 768 369 [(t 46)],
 fa 48 2 7, ow (.store true 4 (t 48) (t 47))])
  (sr [eq 50 32 3, mv 49 50]
  (.cond (t 49)
  (rn [ca 51 832 332 [], mv 52 0, ca 53 864 85 [(t 52), (ic 6)], od 54 (.indexAddr 1 (t 51) (t 53)),
 ld 55 54, ca 56 912 336 [(t 55)], fa 57 2 7, ow (.store true 4 (t 57) (t 56))])
  .skip))))))))
  (sr [la 58 7 7, ow (.store true 7 (t 4) (t 58))]
  .ret)))))
def f367 : AFunc := ⟨2, 59, [some 2, none], [.cell 4 true 7], f367_b⟩
def f368_b : ACode :=
  (sr [mc 2 0]
  (sr [mv 3 0, od 4 (.min [(t 3), (ic 1073741824)]), od 5 (.max [(ic (-1073741824)), (t 4)]), mv 2 5]
  .ret))
def f368 : AFunc := ⟨1, 6, [], [.tmp 2], f368_b⟩
def f369_b : ACode :=
  (sr [od 2 (.new 48 4 (.const (.agg [i0, i0, .bool false, .str []])))]
  (sr [mv 3 0, od 4 (.build [i0, i0, .bool false, .str []] [(0, 1, (ic 2)), (2, 1, (t 3))]), ow (.store true 4 (t 2) (t 4))]
  .ret))
def f369 : AFunc := ⟨1, 5, [], [.cell 2 true 4], f369_b⟩
abbrev f370_l0 : ACode :=
  (sr [ls 10 9 8]
  (.seq (.cond (t 10)
  .skip
  (.exit 0))
  (.seq (.block 1 (sr [od 11 (.indexAddr 7 (t 7) (t 9)), la 12 7 11, od 5 (.new 96 7 (.const zE)), ow (.store true 7 (t 5) (t 12))]
  (rn [mv 13 3, la 14 7 5, ca 15 256 370 [(t 14)], od 16 (.bin .add (t 13) (t 15)),
 mv 3 16])))
  (rn [ad 17 9 1, mv 9 17]))))
def f370_b : ACode :=
  (sr [od 1 (.new 32 7 (t 0)), mc 2 0]
  (sr [mc 3 1]
  (.seq (sr [fa 6 6 1, ld 7 6, ln 8 7, mc 9 0]
  (.block 0 (.loop f370_l0)))
  (sr [mv 18 3, mv 2 18]
  .ret))))
def f370 : AFunc := ⟨1, 19, [], [.tmp 2], f370_b⟩
abbrev f371_l0 : ACode :=
  (sr [ls 46 45 44]
  (.seq (.cond (t 46)
  .skip
  (.exit 0))
  (.seq (.block 1 (sr [od 47 (.indexAddr 7 (t 43) (t 45)), la 48 7 47, od 7 (.new 128 7 (.const zE)), ow (.store true 7 (t 7) (t 48))]
  (sr [la 49 7 7, ca 50 816 371 [(t 49)], mv 8 50]
  (.seq (sr [mv 51 8, eq 52 51 0]
  (.cond (t 52)
  (sr [mc 2 0]
  .ret)
  .skip))
  (rn [ld 53 5, mv 54 8, od 55 (.buildSlice 896 1 (i0) 1 [(0, (t 54))]), od 56 (.append 912 1 15637498705947 (t 53) (t 55)),
 ow (.store false 1 (t 5) (t 56))])))))
  (rn [ad 57 45 1, mv 45 57]))))
def f371_b : ACode :=
  (sr [od 1 (.new 32 7 (t 0)), mc 2 0]
  (sr [fa 11 0 1, ld 12 11, ca 13 224 401 [(t 12)], mv 10 13,
 xt 14 10 0, xt 15 10 1, mv 3 14, mv 4 15]
  (.seq (sr [mv 16 4, fa 17 6 1, ld 18 17, ln 19 18,
 od 20 (.bin .neq (t 16) (t 19)), mv 21 20, og 22 (.fieldAddr 0 (t 1)) 21 false, og 23 (.load false 1 (t 22)) 21 false,
 og 24 (.bin .neq (t 23) (ic 1)) 21 false, og 25 (.move (t 24)) 21 false, og 26 (.fieldAddr 2 (t 1)) 25 true, og 27 (.load true 4 (t 26)) 25 true,
 og 28 (.build [i0, i0, .bool false, .str []] []) 25 true, og 29 (.eqA true [1, 1, 0, 2] (t 27) (t 28)) 25 true, og 30 (.pick (t 25) (t 29) (.const (.bool false))) 21 false, od 31 (.pick (t 21) (.const (.bool true)) (t 30)),
 mv 32 31, og 33 (.fieldAddr 0 (t 1)) 32 false, og 34 (.load false 1 (t 33)) 32 false, og 35 (.bin .neq (t 34) (ic 2)) 32 false,
 og 36 (.move (t 35)) 32 false, og 37 (.fieldAddr 1 (t 1)) 36 true, og 38 (.load false 1 (t 37)) 36 true, og 39 (.bin .neq (t 38) (ic 0)) 36 true,
 og 40 (.pick (t 36) (t 39) (.const (.bool false))) 32 false, od 41 (.pick (t 32) (.const (.bool true)) (t 40))]
  (.cond (t 41)
  (sr [mc 2 0]
  .ret)
  .skip))
  (sr [od 5 (.new 96 1 (.const (.nils)))]
  (.seq (sr [fa 42 6 1, ld 43 42, ln 44 43, mc 45 0]
  (.block 0 (.loop f371_l0)))
  (sr [od 58 (.mkFunc 402 [(t 5)]), mv 9 58]
  (.seq (.block 2 (sr [fa 60 0 1, ld 61 60, eq 62 61 1, mv 59 62]
  (.cond (t 59)
  (sr [fa 63 2 1, la 64 4 63, ca 65 1056 404 [(t 64)], ca 66 1072 391 [(t 65)],
 od 67 (.field false 0 1 (t 66)), mv 2 67]
  .ret)
  (sr [fa 69 0 1, ld 70 69, eq 71 70 2, mv 68 71]
  (.cond (t 68)
  (sr [od 72 (.build [i0, .str [], .str [], i0, i0, .bool false, i0, i0, i0] []), fa 73 1 1, ld 74 73, ca 75 1216 405 [(t 72), (t 74)],
 ca 76 1232 391 [(t 75)], od 77 (.field false 0 1 (t 76)), mv 2 77]
  .ret)
  (.seq (sr [mv 79 3, eq 80 79 1, mv 81 80, og 82 (.move (t 9)) 81 true,
 og 83 (.call 1344 false (t 82) [(ic 2)]) 81 true, od 84 (.pick (t 81) (t 83) (.const (.bool false))), mv 78 84]
  (.cond (t 78)
  .skip
  (.seq (.drawn [mv 85 3, op 86 (.bin .eql (t 85) (ic 2)) [0], op 87 (.move (t 86)) [1], ⟨some 88, .load false 1 (t 5), some (87, true), [2]⟩,
 ⟨some 89, .indexAddr 1 (t 88) (ic 0), some (87, true), [3, 2]⟩, ⟨some 90, .load false 1 (t 89), some (87, true), [4, 2]⟩, ⟨some 91, .load false 1 (t 5), some (87, true), [2]⟩, ⟨some 92, .indexAddr 1 (t 91) (ic 1), some (87, true), [6, 2]⟩,
 ⟨some 93, .load false 1 (t 92), some (87, true), [7, 2]⟩, ⟨some 94, .bin .eql (t 90) (t 93), some (87, true), [5, 8, 2]⟩, op 95 (.pick (t 87) (t 94) (.const (.bool false))) [2, 9], op 78 (.move (t 95)) [10, 2]])
  (.cond (t 78)
  .skip
  (rn [mv 96 3, eq 97 96 3, mv 98 97, og 99 (.move (t 9)) 98 true,
 og 100 (.call 1616 false (t 99) [(ic 1)]) 98 true, od 101 (.pick (t 98) (t 100) (.const (.bool false))), mv 78 101])))))
  (.cond (t 78)
  (sr [mc 2 2]
  .ret)
  (sr [mv 103 3, eq 104 103 4, mv 105 104, og 106 (.move (t 9)) 105 true,
 og 107 (.call 1728 false (t 106) [(ic 1)]) 105 true, od 108 (.pick (t 105) (t 107) (.const (.bool false))), mv 102 108]
  (.cond (t 102)
  (sr [mc 2 1]
  .ret)
  (.seq (.drawn [mv 110 3, op 111 (.bin .eql (t 110) (ic 5)) [0], op 112 (.move (t 111)) [1], ⟨some 113, .load false 1 (t 5), some (112, true), [2]⟩,
 ⟨some 114, .indexAddr 1 (t 113) (ic 0), some (112, true), [3, 2]⟩, ⟨some 115, .load false 1 (t 114), some (112, true), [4, 2]⟩, ⟨some 116, .bin .eql (t 115) (ic 2), some (112, true), [5, 2]⟩, op 117 (.pick (t 112) (t 116) (.const (.bool false))) [2, 6],
 op 118 (.move (t 117)) [7, 2], ⟨some 119, .load false 1 (t 5), some (118, true), [8]⟩, ⟨some 120, .indexAddr 1 (t 119) (ic 1), some (118, true), [9, 8]⟩, ⟨some 121, .load false 1 (t 120), some (118, true), [10, 8]⟩,
 ⟨some 122, .load false 1 (t 5), some (118, true), [8]⟩, ⟨some 123, .indexAddr 1 (t 122) (ic 2), some (118, true), [12, 8]⟩, ⟨some 124, .load false 1 (t 123), some (118, true), [13, 8]⟩, ⟨some 125, .bin .eql (t 121) (t 124), some (118, true), [11, 14, 8]⟩,
 op 126 (.pick (t 118) (t 125) (.const (.bool false))) [8, 15], op 109 (.move (t 126)) [16, 8]])
  (.cond (t 109)
  (sr [ld 127 5, od 128 (.indexAddr 1 (t 127) (ic 1)), ld 129 128, mv 2 129]
  .ret)
  .skip)))))))))))
  (sr [mc 2 0]
  .ret))))))))
def f371 : AFunc := ⟨1, 130, [], [.tmp 2], f371_b⟩
abbrev f372_l0 : ACode :=
  (.seq (sr [mv 16 6, mv 17 0, ln 18 17, ls 19 16 18]
  (.cond (t 19)
  .skip
  (.exit 0)))
  (.seq (.block 1 (sr [mv 22 0, mv 23 6, od 24 (.indexAddr 4 (t 22) (t 23)), la 25 4 24,
 od 7 (.new 128 4 (.const (.agg [i0, i0, i0, .lit 1 []]))), ow (.store true 4 (t 7) (t 25))]
  (sr [mv 26 1, la 27 4 7, od 28 (.call 464 false (t 26) [(t 27)]), od 29 (.un .not (t 28))]
  (.cond (t 29)
  (sr [mv 30 0, mv 31 5, la 32 4 7, od 33 (.indexAddr 4 (t 30) (t 31)),
 ow (.store true 4 (t 33) (t 32))]
  (rn [mv 34 5, ad 35 34 1, mv 5 35]))
  .skip))))
  (rn [mv 20 6, ad 21 20 1, mv 6 21])))
def f372_b : ACode :=
  (sr [od 4 (.move (.const (.lit 4 [])))]
  (sr [mv 8 0, mv 9 1, ca 10 176 390 [(t 8), (t 9)], mv 5 10]
  (.seq (sr [mv 11 5, eq 12 11 (-1)]
  (.cond (t 12)
  (sr [mv 13 0, mv 4 13]
  .ret)
  .skip))
  (.seq (sr [mv 14 5, ad 15 14 1, mv 6 15]
  (.block 0 (.loop f372_l0)))
  (sr [mv 36 0, mv 37 5, od 38 (.slice 4 (t 36) (some (t 37)) none none), ow (.clear 4 (.agg [i0, i0, i0, .nils]) (t 38))]
  (sr [mv 39 0, mv 40 5, od 41 (.slice 4 (t 39) none (some (t 40)) none), mv 4 41]
  .ret))))))
def f372 : AFunc := ⟨2, 42, [some 4, none], [.tmp 4], f372_b⟩
def f374_b : ACode :=
  (sr [od 2 (.new 48 4 (t 0)), od 3 (.move (.const (.bool false)))]
  (sr [fa 4 0 2, ld 5 4, ld 6 1, od 7 (.bin .neq (t 5) (t 6)),
 mv 3 7]
  .ret))
def f374 : AFunc := ⟨2, 8, [], [.tmp 3], f374_b⟩
def f375_b : ACode :=
  (sr [mc 2 0]
  (sr [mv 6 0, od 7 (.build [i0, i0, i0, i0, .bool false, .str [], .lit 7 []] [(0, 1, (ic 2)), (1, 1, (t 6))]), ca 8 144 338 [(t 7)], mv 5 8,
 xt 9 5 0, xt 10 5 1, mv 3 9, mv 4 10]
  (sr [mv 11 3, mv 2 11]
  .ret)))
def f375 : AFunc := ⟨1, 12, [], [.tmp 2], f375_b⟩
abbrev f376_l0 : ACode :=
  (sr [ls 18 17 16]
  (.seq (.cond (t 18)
  .skip
  (.exit 0))
  (.seq (.block 1 (sr [od 19 (.indexAddr 1 (t 15) (t 17)), ld 20 19, od 5 (.new 96 1 (.const (.str []))), ow (.store false 1 (t 5) (t 20))]
  (sr [mv 21 0, od 22 (.mkFunc 406 [(t 5)]), ca 23 384 346 [(t 21), (t 22)], od 24 (.un .not (t 23)),
 mv 6 24]
  (sr [mv 25 6, mv 26 25, og 27 (.fieldAddr 2 (t 3)) 26 true, og 28 (.load false 1 (t 27)) 26 true,
 og 29 (.load false 1 (t 5)) 26 true, og 30 (.call 496 false (fc 349) [(t 28), (t 29)]) 26 true, og 31 (.un .not (t 30)) 26 true, od 32 (.pick (t 26) (t 31) (.const (.bool false)))]
  (.cond (t 32)
  (rn [fa 33 2 3, ld 34 33, ld 35 5, od 36 (.buildSlice 592 1 (.str []) 1 [(0, (t 35))]),
 od 37 (.append 68 1 8278675785407 (t 34) (t 36)), fa 38 2 3, ow (.store false 1 (t 38) (t 37))])
  .skip)))))
  (rn [ad 39 17 1, mv 17 39]))))
def f376_b : ACode :=
  (sr [od 2 (.new 48 5 (.const (.agg [i0, i0, .lit 1 [], .bool false, .bool false])))]
  (sr [od 7 (.build [i0, i0, .nils, .bool false, .bool false] [(4, 1, (.const (.bool true)))]), od 3 (.new 64 5 (.const (.agg [i0, i0, .nils, .bool false, .bool false]))), ow (.store true 5 (t 3) (t 7))]
  (.seq (sr [mv 8 0, ln 9 8, eq 10 9 0]
  (.cond (t 10)
  (sr [la 11 5 3, ow (.store true 5 (t 2) (t 11))]
  .ret)
  .skip))
  (.seq (sr [mv 12 0, od 13 (.indexAddr 4 (t 12) (ic 0)), fa 14 3 13, ld 15 14,
 ln 16 15, mc 17 0]
  (.block 0 (.loop f376_l0)))
  (sr [fa 40 2 3, ld 41 40, ln 42 41, od 43 (.bin .gtr (t 42) (ic 0)),
 fa 44 3 3, ow (.store false 1 (t 44) (t 43))]
  (sr [la 45 5 3, ow (.store true 5 (t 2) (t 45))]
  .ret))))))
def f376 : AFunc := ⟨1, 46, [], [.cell 2 true 5], f376_b⟩
def f377_b : ACode :=
  (sr [od 0 (.new 16 5 (.const (.agg [i0, i0, .lit 1 [], .bool false, .bool false])))]
  (sr [od 1 (.build [i0, i0, .lit 1 [], .bool false, .bool false] [(1, 1, (ic 1))]), ow (.store true 5 (t 0) (t 1))]
  .ret))
def f377 : AFunc := ⟨0, 2, [], [.cell 0 true 5], f377_b⟩
abbrev f378_l0 : ACode :=
  (sr [ls 38 37 36]
  (.seq (.cond (t 38)
  .skip
  (.exit 0))
  (.seq (.block 1 (sr [od 39 (.indexAddr 1 (t 35) (t 37)), ld 40 39, mv 7 40]
  (sr [mv 41 5, mv 42 7, ca 43 704 349 [(t 41), (t 42)], od 44 (.un .not (t 43))]
  (.cond (t 44)
  (rn [mv 45 5, mv 46 7, od 47 (.buildSlice 768 1 (.str []) 1 [(0, (t 46))]), od 48 (.append 97 1 8278675785407 (t 45) (t 47)),
 od 5 (.ren 97 (t 48))])
  .skip))))
  (rn [ad 49 37 1, mv 37 49]))))
def f378_b : ACode :=
  (sr [od 2 (.new 48 5 (t 0)), od 3 (.new 64 5 (t 1)), od 4 (.new 80 5 (.const (.agg [i0, i0, .lit 1 [], .bool false, .bool false])))]
  (.seq (sr [fa 8 4 2, ld 9 8, od 10 (.un .not (t 9))]
  (.cond (t 10)
  (sr [fa 11 0 2, ld 12 11, fa 13 0 3, ld 14 13,
 od 15 (.min [(t 12), (t 14)]), fa 16 1 2, ld 17 16, fa 18 1 3,
 ld 19 18, od 20 (.max [(t 17), (t 19)]), od 21 (.build [i0, i0, .lit 1 [], .bool false, .bool false] [(0, 1, (t 15)), (1, 1, (t 20))]), ow (.store true 5 (t 4) (t 21))]
  .ret)
  .skip))
  (.seq (sr [fa 22 3 2, ld 23 22, od 24 (.un .not (t 23)), mv 25 24,
 og 26 (.fieldAddr 3 (t 3)) 25 false, og 27 (.load false 1 (t 26)) 25 false, og 28 (.un .not (t 27)) 25 false, od 29 (.pick (t 25) (.const (.bool true)) (t 28))]
  (.cond (t 29)
  (sr [od 30 (.build [i0, i0, .lit 1 [], .bool false, .bool false] [(4, 1, (.const (.bool true)))]), ow (.store true 5 (t 4) (t 30))]
  .ret)
  .skip))
  (sr [fa 31 2 2, ld 32 31, od 33 (.call 544 true (fc 407) [(t 32)]), od 5 (.ren 97 (t 33))]
  (.seq (sr [fa 34 2 3, ld 35 34, ln 36 35, mc 37 0]
  (.block 0 (.loop f378_l0)))
  (sr [mv 50 5, od 51 (.build [i0, i0, .lit 1 [], .bool false, .bool false] [(2, 1, (t 50)), (3, 1, (.const (.bool true))), (4, 1, (.const (.bool true)))]), ow (.store true 5 (t 4) (t 51))]
  .ret))))))
def f378 : AFunc := ⟨2, 52, [], [.cell 4 true 5], f378_b⟩
def f379_b : ACode :=
  (sr [od 0 (.move (.const (.lit 2 [])))]
  (sr [od 1 (.build [i0, .nilfn] [(0, 1, (ic 4)), (1, 1, (fc 408))]), od 2 (.build [i0, .nilfn] [(0, 1, (ic 5)), (1, 1, (fc 409))]), od 3 (.build [i0, .nilfn] [(0, 1, (ic 6)), (1, 1, (fc 410))]), od 4 (.build [i0, .nilfn] [(0, 1, (ic 7)), (1, 1, (fc 411))]),
 od 5 (.build [i0, .nilfn] [(0, 1, (ic 8)), (1, 1, (fc 412))]), od 6 (.build [i0, .nilfn] [(0, 1, (ic 9)), (1, 1, (fc 413))]), od 7 (.build [i0, .nilfn] [(0, 1, (ic 10)), (1, 1, (fc 414))]), od 8 (.build [i0, .nilfn] [(0, 1, (ic 11)), (1, 1, (fc 408))]),
 od 9 (.build [i0, .nilfn] [(0, 1, (ic 12)), (1, 1, (fc 409))]), od 10 (.buildSlice 176 2 (.agg [i0, .nilfn]) 9 [(0, (t 1)), (1, (t 2)), (2, (t 3)), (3, (t 4)), (4, (t 5)), (5, (t 6)), (6, (t 7)), (7, (t 8)), (8, (t 9))]), mv 0 10]
  .ret))
def f379 : AFunc := ⟨0, 11, [], [.tmp 0], f379_b⟩
abbrev f380_l0 : ACode :=
  (sr [ls 9 8 7]
  (.seq (.cond (t 9)
  .skip
  (.exit 0))
  (.seq (.block 1 (sr [mv 10 8, mv 5 10]
  (sr [mv 11 1, mv 12 0, mv 13 5, od 14 (.indexAddr 2 (t 12) (t 13)),
 la 15 2 14, od 16 (.call 272 false (t 11) [(t 15)])]
  (.cond (t 16)
  (sr [mv 17 5, mv 4 17]
  .ret)
  .skip))))
  (rn [ad 18 8 1, mv 8 18]))))
def f380_b : ACode :=
  (sr [mc 4 0]
  (.seq (sr [mv 6 0, ln 7 6, mc 8 0]
  (.block 0 (.loop f380_l0)))
  (sr [mc 4 (-1)]
  .ret)))
def f380 : AFunc := ⟨2, 19, [], [.tmp 4], f380_b⟩
def f381_b : ACode :=
  (sr [od 2 (.new 48 2 (t 0)), od 3 (.move (.const (.bool false)))]
  (sr [fa 4 0 2, ld 5 4, fa 6 0 1, ld 7 6,
 od 8 (.bin .eql (t 5) (t 7)), mv 3 8]
  .ret))
def f381 : AFunc := ⟨2, 9, [], [.tmp 3], f381_b⟩
abbrev f382_l0 : ACode :=
  (.seq (sr [mv 5 4, fa 6 6 1, ld 7 6, ln 8 7,
 ls 9 5 8]
  (.cond (t 9)
  .skip
  (.exit 0)))
  (.seq (.block 1 (rn [mv 12 3, fa 13 6 1, ld 14 13, mv 15 4,
 od 16 (.indexAddr 7 (t 14) (t 15)), la 17 7 16, ca 18 304 382 [(t 17)], od 19 (.bin .add (t 12) (t 18)),
 mv 3 19]))
  (rn [mv 10 4, ad 11 10 1, mv 4 11])))
def f382_b : ACode :=
  (sr [od 1 (.new 32 7 (t 0)), mc 2 0]
  (sr [mc 3 1]
  (.seq (sr [mc 4 0]
  (.block 0 (.loop f382_l0)))
  (sr [mv 20 3, mv 2 20]
  .ret))))
def f382 : AFunc := ⟨1, 21, [], [.tmp 2], f382_b⟩
abbrev f383_l0 : ACode :=
  (.seq (sr [mv 33 4, fa 34 6 1, ld 35 34, ln 36 35,
 ls 37 33 36]
  (.cond (t 37)
  .skip
  (.exit 0)))
  (.seq (.block 1 (sr [mv 40 4, fa 41 6 1, ld 42 41, mv 43 4,
 od 44 (.indexAddr 7 (t 42) (t 43)), la 45 7 44, ca 46 752 383 [(t 45)], od 47 (.indexArr 3 1 (t 3) (t 40)),
 ow (.store false 1 (t 47) (t 46))]
  (sr [mv 48 4, od 49 (.indexArr 3 1 (t 3) (t 48)), ld 50 49, eq 51 50 0]
  (.cond (t 51)
  (sr [mc 2 0]
  .ret)
  .skip))))
  (rn [mv 38 4, ad 39 38 1, mv 4 39])))
def f383_b : ACode :=
  (sr [od 1 (.new 32 7 (t 0)), mc 2 0]
  (.seq (.seq (.drawn [fa 5 0 1, op 6 (.load false 1 (t 5)) [0], op 7 (.call 128 false (fc 415) [(t 6)]) [1], fa 8 6 1,
 op 9 (.load false 1 (t 8)) [3], op 10 (.len (t 9)) [4], op 11 (.bin .neq (t 7) (t 10)) [2, 5], op 12 (.move (t 11)) [6, 2],
 ⟨some 13, .fieldAddr 0 (t 1), some (12, false), [7]⟩, ⟨some 14, .load false 1 (t 13), some (12, false), [8, 7]⟩, ⟨some 15, .bin .neq (t 14) (ic 1), some (12, false), [9, 7]⟩, ⟨some 16, .move (t 15), some (12, false), [10, 7, 7]⟩,
 ⟨some 17, .fieldAddr 2 (t 1), some (16, true), [11]⟩, ⟨some 18, .load true 4 (t 17), some (16, true), [12, 11]⟩, ⟨some 19, .build [i0, i0, .bool false, .str []] [], some (16, true), [11]⟩, ⟨some 20, .eqA true [1, 1, 0, 2] (t 18) (t 19), some (16, true), [13, 14, 11]⟩,
 ⟨some 21, .pick (t 16) (t 20) (.const (.bool false)), some (12, false), [11, 15, 7]⟩, op 22 (.pick (t 12) (.const (.bool true)) (t 21)) [7, 16], op 23 (.move (t 22)) [17, 11], ⟨some 24, .fieldAddr 0 (t 1), some (23, false), [18]⟩,
 ⟨some 25, .load false 1 (t 24), some (23, false), [19, 18]⟩, ⟨some 26, .bin .neq (t 25) (ic 2), some (23, false), [20, 18]⟩, ⟨some 27, .move (t 26), some (23, false), [21, 18, 18]⟩, ⟨some 28, .fieldAddr 1 (t 1), some (27, true), [22]⟩,
 ⟨some 29, .load false 1 (t 28), some (27, true), [23, 22]⟩, ⟨some 30, .bin .neq (t 29) (ic 0), some (27, true), [24, 22]⟩, ⟨some 31, .pick (t 27) (t 30) (.const (.bool false)), some (23, false), [22, 25, 18]⟩, op 32 (.pick (t 23) (.const (.bool true)) (t 31)) [18, 26]])
  (.cond (t 32)
  (sr [mc 2 0]
  .ret)
  .skip))
  (sr [od 3 (.new 64 3 (.const (.agg [i0, i0, i0])))]
  (.seq (sr [mc 4 0]
  (.block 0 (.loop f383_l0)))
  (.seq (.block 2 (sr [fa 61 0 1, ld 62 61, eq 63 62 1, mv 60 63]
  (.cond (t 60)
  (sr [fa 64 2 1, la 65 4 64, ca 66 1072 389 [(t 65)]]
  (.cond (t 66)
  (sr [fa 67 2 1, fa 68 0 67, ld 69 68, mv 2 69]
  .ret)
  .skip))
  (sr [fa 71 0 1, ld 72 71, eq 73 72 2, mv 70 73]
  (.cond (t 70)
  (sr [fa 74 1 1, ld 75 74, ca 76 1232 351 [(t 75)], mv 2 76]
  .ret)
  (sr [fa 78 0 1, ld 79 78, eq 80 79 3, mv 77 80]
  (.cond (t 77)
  (sr [od 81 (.indexArr 3 1 (t 3) (ic 0)), ld 82 81, eq 83 82 2]
  (.cond (t 83)
  (sr [mc 2 2]
  .ret)
  .skip))
  (sr [fa 85 0 1, ld 86 85, eq 87 86 4, mv 88 87,
 og 89 (.fieldAddr 0 (t 1)) 88 false, og 90 (.load false 1 (t 89)) 88 false, og 91 (.bin .eql (t 90) (ic 5)) 88 false, od 92 (.pick (t 88) (.const (.bool true)) (t 91)),
 mv 84 92]
  (.cond (t 84)
  (sr [od 93 (.indexArr 3 1 (t 3) (ic 0)), ld 94 93, eq 95 94 2, mv 96 95,
 og 97 (.indexArr 3 1 (t 3) (ic 1)) 96 true, og 98 (.load false 1 (t 97)) 96 true, og 99 (.bin .eql (t 98) (ic 2)) 96 true, od 100 (.pick (t 96) (t 99) (.const (.bool false)))]
  (.cond (t 100)
  (sr [mc 2 2]
  .ret)
  .skip))
  (sr [fa 102 0 1, ld 103 102, eq 104 103 6, mv 101 104]
  (.cond (t 101)
  (sr [od 105 (.indexArr 3 1 (t 3) (ic 0)), ld 106 105, od 107 (.indexArr 3 1 (t 3) (ic 1)), ld 108 107,
 od 109 (.bin .eql (t 106) (t 108))]
  (.cond (t 109)
  (sr [mc 2 2]
  .ret)
  .skip))
  (sr [fa 111 0 1, ld 112 111, eq 113 112 7, mv 110 113]
  (.cond (t 110)
  (sr [od 114 (.indexArr 3 1 (t 3) (ic 0)), ld 115 114, eq 116 115 1, mv 117 116,
 og 118 (.indexArr 3 1 (t 3) (ic 1)) 117 true, og 119 (.load false 1 (t 118)) 117 true, og 120 (.bin .eql (t 119) (ic 1)) 117 true, od 121 (.pick (t 117) (t 120) (.const (.bool false)))]
  (.cond (t 121)
  (sr [mc 2 2]
  .ret)
  .skip))
  (sr [fa 123 0 1, ld 124 123, eq 125 124 13, mv 122 125]
  (.cond (t 122)
  (sr [od 126 (.indexArr 3 1 (t 3) (ic 0)), ld 127 126, eq 128 127 2, mv 129 128,
 og 130 (.indexArr 3 1 (t 3) (ic 1)) 129 true, og 131 (.load false 1 (t 130)) 129 true, og 132 (.indexArr 3 1 (t 3) (ic 2)) 129 true, og 133 (.load false 1 (t 132)) 129 true,
 og 134 (.bin .eql (t 131) (t 133)) 129 true, od 135 (.pick (t 129) (t 134) (.const (.bool false)))]
  (.cond (t 135)
  (sr [od 136 (.indexArr 3 1 (t 3) (ic 1)), ld 137 136, mv 2 137]
  .ret)
  .skip))
  (sr [od 52 (.indexArr 3 1 (t 3) (ic 0)), ld 53 52, eq 54 53 1, mv 55 54,
 og 56 (.indexArr 3 1 (t 3) (ic 1)) 55 true, og 57 (.load false 1 (t 56)) 55 true, og 58 (.bin .eql (t 57) (ic 1)) 55 true, od 59 (.pick (t 55) (t 58) (.const (.bool false)))]
  (.cond (t 59)
  (sr [mc 2 1]
  .ret)
  .skip)))))))))))))))))
  (sr [mc 2 0]
  .ret))))))
def f383 : AFunc := ⟨1, 138, [], [.tmp 2], f383_b⟩
abbrev f384_l0 : ACode :=
  (.seq (sr [mv 16 10, mv 17 0, ln 18 17, ls 19 16 18]
  (.cond (t 19)
  .skip
  (.exit 0)))
  (.seq (.block 1 (sr [mv 22 0, mv 23 10, od 24 (.indexAddr 4 (t 22) (t 23)), fa 25 0 24,
 ld 26 25, mv 27 1, od 28 (.bin .eql (t 26) (t 27))]
  (.cond (t 28)
  (sr [mv 29 8, mv 30 0, mv 31 10, od 32 (.indexAddr 4 (t 30) (t 31)),
 fa 33 1 32, ld 34 33, od 35 (.max [(t 29), (t 34)]), mv 8 35]
  (rn [mv 36 9, mv 37 0, mv 38 10, od 39 (.indexAddr 4 (t 37) (t 38)),
 fa 40 2 39, ld 41 40, od 42 (.min [(t 36), (t 41)]), mv 9 42]))
  .skip)))
  (rn [mv 20 10, ad 21 20 1, mv 10 21])))
def f384_b : ACode :=
  (sr [mc 4 0, mc 5 0]
  (sr [mc 6 (-1073741824)]
  (sr [mc 7 1073741824]
  (.seq (sr [mv 11 1, ca 12 208 351 [(t 11)], eq 13 12 2]
  (.cond (t 13)
  (sr [mc 6 0]
  (rn [mc 7 1]))
  .skip))
  (sr [mv 14 6, mv 8 14]
  (sr [mv 15 7, mv 9 15]
  (.seq (sr [mc 10 0]
  (.block 0 (.loop f384_l0)))
  (.seq (sr [mv 43 8, mv 44 9, od 45 (.bin .gtr (t 43) (t 44))]
  (.cond (t 45)
  (sr [mv 46 6, mv 47 7, mv 4 46, mv 5 47]
  .ret)
  .skip))
  (sr [mv 48 8, mv 49 9, mv 4 48, mv 5 49]
  .ret)))))))))
def f384 : AFunc := ⟨2, 50, [], [.tmp 4, .tmp 5], f384_b⟩
abbrev f385_l0 : ACode :=
  (.seq (sr [mv 36 11, mv 37 6, ln 38 37, ls 39 36 38]
  (.cond (t 39)
  .skip
  (.exit 0)))
  (.seq (.block 1 (rn [mv 42 10, mv 43 42, og 44 (.move (t 8)) 43 false, og 45 (.move (t 6)) 43 false,
 og 46 (.move (t 11)) 43 false, og 47 (.indexAddr 1 (t 45) (t 46)) 43 false, og 48 (.load false 1 (t 47)) 43 false, og 49 (.call 800 false (fc 353) [(t 44), (t 48)]) 43 false,
 od 50 (.pick (t 43) (.const (.bool true)) (t 49)), mv 10 50]))
  (rn [mv 40 11, ad 41 40 1, mv 11 41])))
def f385_b : ACode :=
  (sr [od 2 (.new 48 7 (t 0)), mc 4 0, mc 5 0]
  (sr [fa 13 6 2, ld 14 13, od 15 (.indexAddr 7 (t 14) (ic 0)), la 16 7 15,
 mv 17 1, ca 18 304 388 [(t 16), (t 17)], mv 12 18, xt 19 12 0,
 xt 20 12 1, mv 6 19, mv 7 20]
  (sr [fa 22 6 2, ld 23 22, od 24 (.indexAddr 7 (t 23) (ic 1)), la 25 7 24,
 mv 26 1, ca 27 448 388 [(t 25), (t 26)], mv 21 27, xt 28 21 0,
 xt 29 21 1, mv 8 28, mv 9 29]
  (.seq (sr [mv 30 7, od 31 (.un .not (t 30)), mv 32 31, og 33 (.move (t 9)) 32 false,
 og 34 (.un .not (t 33)) 32 false, od 35 (.pick (t 32) (.const (.bool true)) (t 34))]
  (.cond (t 35)
  (sr [mc 4 0, mc 5 1]
  .ret)
  .skip))
  (sr [od 10 (.move (.const (.bool false)))]
  (.seq (sr [mc 11 0]
  (.block 0 (.loop f385_l0)))
  (.seq (sr [mv 51 10, od 52 (.un .not (t 51))]
  (.cond (t 52)
  (sr [mc 4 0, mc 5 0]
  .ret)
  .skip))
  (.seq (sr [mv 53 6, ln 54 53, eq 55 54 1, mv 56 55,
 og 57 (.move (t 8)) 56 true, og 58 (.len (t 57)) 56 true, og 59 (.bin .eql (t 58) (ic 1)) 56 true, od 60 (.pick (t 56) (t 59) (.const (.bool false)))]
  (.cond (t 60)
  (sr [mc 4 1, mc 5 1]
  .ret)
  .skip))
  (sr [mc 4 0, mc 5 1]
  .ret)))))))))
def f385 : AFunc := ⟨2, 61, [], [.tmp 4, .tmp 5], f385_b⟩
def f386_b : ACode :=
  (sr [mc 8 0, mc 9 0]
  (sr [mv 14 0, mv 15 2, od 16 (.bin .mul (t 14) (t 15)), ca 17 288 368 [(t 16)],
 mv 10 17]
  (sr [mv 18 0, mv 19 3, od 20 (.bin .mul (t 18) (t 19)), ca 21 352 368 [(t 20)],
 mv 11 21]
  (sr [mv 22 1, mv 23 2, od 24 (.bin .mul (t 22) (t 23)), ca 25 416 368 [(t 24)],
 mv 12 25]
  (sr [mv 26 1, mv 27 3, od 28 (.bin .mul (t 26) (t 27)), ca 29 480 368 [(t 28)],
 mv 13 29]
  (sr [mv 30 10, mv 31 11, mv 32 12, mv 33 13,
 od 34 (.min [(t 30), (t 31), (t 32), (t 33)]), mv 35 10, mv 36 11, mv 37 12,
 mv 38 13, od 39 (.max [(t 35), (t 36), (t 37), (t 38)]), mv 8 34, mv 9 39]
  .ret))))))
def f386 : AFunc := ⟨4, 40, [], [.tmp 8, .tmp 9], f386_b⟩
def f387_b : ACode :=
  (sr [od 4 (.new 80 7 (t 1)), od 6 (.new 112 7 (.const zE)), od 7 (.move (.const (.bool false)))]
  (sr [mv 12 0, la 13 7 4, ca 14 240 340 [(t 12), (t 13)], od 8 (.new 144 5 (.const (.agg [i0, i0, .lit 1 [], .bool false, .bool false]))),
 ow (.store true 5 (t 8) (t 14))]
  (sr [mv 15 2, od 16 (.build [i0, i0, .bool false, .str []] [(0, 1, (t 15))]), od 17 (.build [i0, i0, i0, i0, .bool false, .str [], .lit 7 []] [(0, 1, (ic 1)), (2, 4, (t 16))]), od 9 (.new 160 7 (.const zE)),
 ow (.store true 7 (t 9) (t 17))]
  (.seq (sr [mv 18 2]
  (.block 0 (sr [eq 24 18 3, mv 23 24]
  (.cond (t 23)
  (.seq (sr [fa 25 2 8, ld 26 25, ln 27 26, od 28 (.bin .neq (t 27) (ic 1))]
  (.cond (t 28)
  (sr [od 29 (.build [i0, i0, i0, i0, .bool false, .str [], .lit 7 []] []), ow (.store true 7 (t 6) (t 29)), od 7 (.move (.const (.bool false)))]
  .ret)
  .skip))
  (sr [fa 30 2 8, ld 31 30, od 32 (.indexAddr 1 (t 31) (ic 0)), ld 33 32,
 fa 34 2 9, fa 35 3 34, ow (.store false 1 (t 35) (t 33))]
  (sr [la 37 7 9, ca 38 624 338 [(t 37)], mv 36 38, xt 39 36 0,
 xt 40 36 1, mv 10 39, mv 11 40]
  (sr [la 41 7 9, mv 42 11, eq 43 42 0, ow (.store true 7 (t 6) (t 41)),
 mv 7 43]
  .ret))))
  (sr [eq 45 18 2, mv 44 45]
  (.cond (t 44)
  (rn [fa 46 0 8, ld 47 46, eq 48 47 1, fa 49 2 9,
 fa 50 2 49, ow (.store false 1 (t 50) (t 48))])
  (rn [fa 19 0 8, ld 20 19, fa 21 2 9, fa 22 1 21,
 ow (.store false 1 (t 22) (t 20))])))))))
  (.seq (.drawn [la 51 7 9, la 52 5 8, op 53 (.call 864 false (fc 416) [(t 52)]) [1], ⟨none, .store true 7 (t 6) (t 51), none, [0, 2, 0]⟩,
 op 7 (.move (t 53)) [2, 3, 0, 1, 2, 3]])
  .ret)))))
def f387 : AFunc := ⟨3, 54, [], [.cell 6 true 7, .tmp 7], f387_b⟩
abbrev f388_l0 : ACode :=
  (.seq (sr [mv 86 13, mv 87 10, ln 88 87, ls 89 86 88]
  (.cond (t 89)
  .skip
  (.exit 1)))
  (.seq (.block 2 (sr [mv 92 12, mv 93 10, mv 94 13, od 95 (.indexAddr 1 (t 93) (t 94)),
 ld 96 95, ca 97 1568 353 [(t 92), (t 96)], od 98 (.un .not (t 97))]
  (.cond (t 98)
  (rn [mv 99 12, mv 100 10, mv 101 13, od 102 (.indexAddr 1 (t 100) (t 101)),
 ld 103 102, od 104 (.buildSlice 1680 1 (.str []) 1 [(0, (t 103))]), od 105 (.append 209 1 8278675785407 (t 99) (t 104)), od 12 (.ren 209 (t 105))])
  .skip)))
  (rn [mv 90 13, ad 91 90 1, mv 13 91])))
def f388_b : ACode :=
  (sr [od 2 (.new 48 7 (t 0)), od 4 (.emptyBuf 81 1), od 5 (.move (.const (.bool false)))]
  (.seq (sr [fa 14 0 2, ld 15 14]
  (.block 0 (sr [eq 17 15 1, mv 16 17]
  (.cond (t 16)
  (sr [fa 18 2 2, fa 19 3 18, ld 20 19, od 21 (.buildSlice 352 1 (.str []) 1 [(0, (t 20))]),
 mv 4 21, od 5 (.move (.const (.bool true)))]
  .ret)
  (sr [eq 23 15 2, mv 22 23]
  (.cond (t 22)
  (sr [mv 24 1, fa 25 1 2, ld 26 25, ca 27 448 417 [(t 24), (t 26)],
 xt 28 27 0, xt 29 27 1, mv 4 28, mv 5 29]
  .ret)
  .skip))))))
  (sr [fa 31 6 2, ld 32 31, od 33 (.indexAddr 7 (t 32) (ic 0)), la 34 7 33,
 mv 35 1, ca 36 592 342 [(t 34), (t 35)], mv 30 36, xt 37 30 0,
 xt 38 30 1, mv 6 37, mv 7 38]
  (.seq (sr [mv 39 6, eq 40 39 1]
  (.cond (t 40)
  (sr [fa 41 6 2, ld 42 41, od 43 (.indexAddr 7 (t 42) (ic 1)), la 44 7 43,
 mv 45 1, ca 46 752 388 [(t 44), (t 45)], xt 47 46 0, xt 48 46 1,
 mv 4 47, mv 5 48]
  .ret)
  .skip))
  (.seq (sr [mv 49 7, eq 50 49 0]
  (.cond (t 50)
  (sr [fa 51 6 2, ld 52 51, od 53 (.indexAddr 7 (t 52) (ic 2)), la 54 7 53,
 mv 55 1, ca 56 912 388 [(t 54), (t 55)], xt 57 56 0, xt 58 56 1,
 mv 4 57, mv 5 58]
  .ret)
  .skip))
  (sr [fa 60 6 2, ld 61 60, od 62 (.indexAddr 7 (t 61) (ic 1)), la 63 7 62,
 mv 64 1, ca 65 1056 388 [(t 63), (t 64)], mv 59 65, xt 66 59 0,
 xt 67 59 1, mv 8 66, mv 9 67]
  (sr [fa 69 6 2, ld 70 69, od 71 (.indexAddr 7 (t 70) (ic 2)), la 72 7 71,
 mv 73 1, ca 74 1200 388 [(t 72), (t 73)], mv 68 74, xt 75 68 0,
 xt 76 68 1, mv 10 75, mv 11 76]
  (.seq (sr [mv 77 9, od 78 (.un .not (t 77)), mv 79 78, og 80 (.move (t 11)) 79 false,
 og 81 (.un .not (t 80)) 79 false, od 82 (.pick (t 79) (.const (.bool true)) (t 81))]
  (.cond (t 82)
  (sr [od 4 (.emptyBuf 81 1), od 5 (.move (.const (.bool false)))]
  .ret)
  .skip))
  (sr [od 83 (.buildSlice 1344 1 (.str []) 0 []), mv 84 8, od 85 (.append 1376 1 8278675785407 (t 83) (t 84)), od 12 (.ren 209 (t 85))]
  (.seq (sr [mc 13 0]
  (.block 1 (.loop f388_l0)))
  (sr [mv 106 12, mv 4 106, od 5 (.move (.const (.bool true)))]
  .ret)))))))))))
def f388 : AFunc := ⟨2, 107, [], [.tmp 4, .tmp 5], f388_b⟩
abbrev f389_l0 : ACode :=
  (.seq (sr [mv 38 3, fa 39 3 1, ld 40 39, od 41 (.lenStr (t 40)),
 ls 42 38 41]
  (.cond (t 42)
  .skip
  (.exit 1)))
  (.seq (.block 2 (sr [fa 45 3 1, ld 46 45, mv 47 3, od 48 (.indexStr (t 46) (t 47)),
 od 49 (.bin .lss (t 48) (.const (.int .u8 32))), mv 50 49, og 51 (.fieldAddr 3 (t 1)) 50 false, og 52 (.load false 1 (t 51)) 50 false,
 og 53 (.move (t 3)) 50 false, og 54 (.indexStr (t 52) (t 53)) 50 false, og 55 (.bin .gtr (t 54) (.const (.int .u8 126))) 50 false, od 56 (.pick (t 50) (.const (.bool true)) (t 55)),
 mv 57 56, og 58 (.fieldAddr 3 (t 1)) 57 false, og 59 (.load false 1 (t 58)) 57 false, og 60 (.move (t 3)) 57 false,
 og 61 (.indexStr (t 59) (t 60)) 57 false, og 62 (.bin .eql (t 61) (.const (.int .u8 34))) 57 false, od 63 (.pick (t 57) (.const (.bool true)) (t 62))]
  (.cond (t 63)
  (sr [od 2 (.move (.const (.bool false)))]
  .ret)
  .skip)))
  (rn [mv 43 3, ad 44 43 1, mv 3 44])))
def f389_b : ACode :=
  (sr [od 1 (.new 32 4 (t 0)), od 2 (.move (.const (.bool false)))]
  (.seq (sr [fa 4 0 1, ld 5 4]
  (.block 0 (sr [eq 7 5 1, mv 6 7]
  (.cond (t 6)
  (sr [fa 8 1 1, ld 9 8, od 10 (.bin .geq (t 9) (ic (-1073741824))), mv 11 10,
 og 12 (.fieldAddr 1 (t 1)) 11 true, og 13 (.load false 1 (t 12)) 11 true, og 14 (.bin .leq (t 13) (ic 1073741824)) 11 true, od 15 (.pick (t 11) (t 14) (.const (.bool false))),
 mv 16 15, og 17 (.fieldAddr 2 (t 1)) 16 true, og 18 (.load false 1 (t 17)) 16 true, og 19 (.un .not (t 18)) 16 true,
 od 20 (.pick (t 16) (t 19) (.const (.bool false))), mv 21 20, og 22 (.fieldAddr 3 (t 1)) 21 true, og 23 (.load false 1 (t 22)) 21 true,
 og 24 (.bin .eql (t 23) (.const (.str []))) 21 true, od 25 (.pick (t 21) (t 24) (.const (.bool false))), mv 2 25]
  .ret)
  (sr [eq 27 5 2, mv 26 27]
  (.cond (t 26)
  (sr [fa 28 1 1, ld 29 28, eq 30 29 0, mv 31 30,
 og 32 (.fieldAddr 3 (t 1)) 31 true, og 33 (.load false 1 (t 32)) 31 true, og 34 (.bin .eql (t 33) (.const (.str []))) 31 true, od 35 (.pick (t 31) (t 34) (.const (.bool false))),
 mv 2 35]
  .ret)
  (sr [eq 37 5 3, mv 36 37]
  (.cond (t 36)
  (.seq (sr [mc 3 0]
  (.block 1 (.loop f389_l0)))
  (sr [fa 64 1 1, ld 65 64, eq 66 65 0, mv 67 66,
 og 68 (.fieldAddr 2 (t 1)) 67 true, og 69 (.load false 1 (t 68)) 67 true, og 70 (.un .not (t 69)) 67 true, od 71 (.pick (t 67) (t 70) (.const (.bool false))),
 mv 72 71, og 73 (.fieldAddr 3 (t 1)) 72 true, og 74 (.load false 1 (t 73)) 72 true, og 75 (.lenStr (t 74)) 72 true,
 og 76 (.bin .leq (t 75) (ic 24)) 72 true, od 77 (.pick (t 72) (t 76) (.const (.bool false))), mv 2 77]
  .ret))
  .skip))))))))
  (sr [od 2 (.move (.const (.bool false)))]
  .ret)))
def f389 : AFunc := ⟨1, 78, [], [.tmp 2], f389_b⟩
abbrev f390_l0 : ACode :=
  (sr [ls 9 8 7]
  (.seq (.cond (t 9)
  .skip
  (.exit 0))
  (.seq (.block 1 (sr [mv 10 8, mv 5 10]
  (sr [mv 11 1, mv 12 0, mv 13 5, od 14 (.indexAddr 4 (t 12) (t 13)),
 la 15 4 14, od 16 (.call 272 false (t 11) [(t 15)])]
  (.cond (t 16)
  (sr [mv 17 5, mv 4 17]
  .ret)
  .skip))))
  (rn [ad 18 8 1, mv 8 18]))))
def f390_b : ACode :=
  (sr [mc 4 0]
  (.seq (sr [mv 6 0, ln 7 6, mc 8 0]
  (.block 0 (.loop f390_l0)))
  (sr [mc 4 (-1)]
  .ret)))
def f390 : AFunc := ⟨2, 19, [], [.tmp 4], f390_b⟩
def f391_b : ACode :=
  (sr [od 2 (.new 48 4 (.const (.agg [i0, i0, .bool false, .str []])))]
  (.seq (sr [mv 6 0]
  (.block 0 (sr [od 7 (.assert 3 true (i0) (t 6)), xt 8 7 1, xt 9 7 0]
  (.cond (t 8)
  (sr [mv 3 9]
  (sr [mv 10 3, od 11 (.build [i0, i0, .bool false, .str []] [(0, 1, (ic 1)), (1, 1, (t 10))]), ow (.store true 4 (t 2) (t 11))]
  .ret))
  (sr [od 12 (.assert 4 true (.bool false) (t 6)), xt 13 12 1, xt 14 12 0]
  (.cond (t 13)
  (sr [mv 4 14]
  (sr [mv 15 4, od 16 (.build [i0, i0, .bool false, .str []] [(0, 1, (ic 2)), (2, 1, (t 15))]), ow (.store true 4 (t 2) (t 16))]
  .ret))
  (sr [od 17 (.assert 9 true (.str []) (t 6)), xt 18 17 1, xt 19 17 0]
  (.cond (t 18)
  (sr [mv 5 19]
  (sr [mv 20 5, od 21 (.build [i0, i0, .bool false, .str []] [(0, 1, (ic 3)), (3, 1, (t 20))]), ow (.store true 4 (t 2) (t 21))]
  .ret))
  .skip))))))))
  (sr [od 22 (.build [i0, i0, .bool false, .str []] []), ow (.store true 4 (t 2) (t 22))]
  .ret)))
def f391 : AFunc := ⟨1, 23, [], [.cell 2 true 4], f391_b⟩
abbrev f392_l0 : ACode :=
  (sr [ls 15 14 13]
  (.seq (.cond (t 15)
  .skip
  (.exit 0))
  (.seq (.block 1 (sr [od 16 (.indexAddr 7 (t 12) (t 14)), la 17 7 16, od 7 (.new 128 7 (.const zE)), ow (.store true 7 (t 7) (t 17))]
  (rn [mv 18 5, la 19 7 7, la 20 9 3, ca 21 352 392 [(t 19), (t 20)],
 od 22 (.buildSlice 368 1 (.nili) 1 [(0, (t 21))]), od 23 (.append 97 1 8278675785407 (t 18) (t 22)), od 5 (.ren 97 (t 23))])))
  (rn [ad 24 14 1, mv 14 24]))))
def f392_b : ACode :=
  (sr [od 2 (.new 48 7 (t 0)), od 3 (.new 64 9 (t 1)), od 4 (.move (.const (.nili)))]
  (sr [od 5 (.emptyBuf 97 1)]
  (.seq (sr [fa 11 6 2, ld 12 11, ln 13 12, mc 14 0]
  (.block 0 (.loop f392_l0)))
  (.seq (sr [fa 25 0 2, ld 26 25, eq 27 26 6]
  (.cond (t 27)
  (.seq (.drawn [mv 28 5, op 29 (.indexAddr 1 (t 28) (ic 0)) [0], op 30 (.load false 1 (t 29)) [1], mv 31 5,
 op 32 (.indexAddr 1 (t 31) (ic 1)) [3], op 33 (.load false 1 (t 32)) [4], op 34 (.eqI false [(2, 1), (3, 1), (4, 0), (5, 1), (6, 1), (9, 2), (10, 2), (11, 2), (12, 1), (21, 1)] (t 30) (t 33)) [2, 5], op 35 (.mkIface 4 (t 34)) [6],
 op 4 (.move (t 35)) ([7] ++ rg 8)])
  .ret)
  .skip))
  (.seq (sr [mv 36 5, ln 37 36, eq 38 37 0]
  (.cond (t 38)
  (.seq (sr [fa 39 0 2, ld 40 39, eq 41 40 2]
  (.cond (t 41)
  (sr [la 42 9 3, fa 43 1 2, ld 44 43, ca 45 736 405 [(t 42), (t 44)],
 mv 4 45]
  .ret)
  .skip))
  (sr [fa 46 2 2, la 47 4 46, ca 48 784 404 [(t 47)], mv 4 48]
  .ret))
  .skip))
  (.seq (sr [mv 49 5, od 50 (.indexAddr 1 (t 49) (ic 0)), ld 51 50]
  (.block 2 (sr [od 52 (.assert 4 true (.bool false) (t 51)), xt 53 52 1, xt 54 52 0]
  (.cond (t 53)
  (sr [mv 8 54]
  (.seq (sr [fa 55 0 2, ld 56 55]
  (.block 3 (sr [eq 58 56 3, mv 57 58]
  (.cond (t 57)
  (sr [mv 59 8, od 60 (.un .not (t 59)), od 61 (.mkIface 4 (t 60)), mv 4 61]
  .ret)
  (sr [eq 63 56 4, mv 62 63]
  (.cond (t 62)
  (sr [mv 64 8, mv 65 64, og 66 (.move (t 5)) 65 true, og 67 (.indexAddr 1 (t 66) (ic 1)) 65 true,
 og 68 (.load false 1 (t 67)) 65 true, og 69 (.assert 4 false (.bool false) (t 68)) 65 true, od 70 (.pick (t 65) (t 69) (.const (.bool false))), od 71 (.mkIface 4 (t 70)),
 mv 4 71]
  .ret)
  (sr [eq 73 56 5, mv 72 73]
  (.cond (t 72)
  (sr [mv 74 8, mv 75 74, og 76 (.move (t 5)) 75 false, og 77 (.indexAddr 1 (t 76) (ic 1)) 75 false,
 og 78 (.load false 1 (t 77)) 75 false, og 79 (.assert 4 false (.bool false) (t 78)) 75 false, od 80 (.pick (t 75) (.const (.bool true)) (t 79)), od 81 (.mkIface 4 (t 80)),
 mv 4 81]
  .ret)
  .skip))))))))
  (.seq (sr [mv 82 8]
  (.cond (t 82)
  (sr [mv 83 5, od 84 (.indexAddr 1 (t 83) (ic 1)), ld 85 84, mv 4 85]
  .ret)
  .skip))
  (sr [mv 86 5, od 87 (.indexAddr 1 (t 86) (ic 2)), ld 88 87, mv 4 88]
  .ret))))
  (sr [od 89 (.assert 3 true (i0) (t 51)), xt 90 89 1, xt 91 89 0]
  (.cond (t 90)
  (sr [mv 9 91]
  (sr [mv 92 5, od 93 (.indexAddr 1 (t 92) (ic 1)), ld 94 93, od 95 (.assert 3 false (i0) (t 94)),
 mv 10 95]
  (.seq (sr [fa 96 0 2, ld 97 96]
  (.block 4 (sr [eq 99 97 7, mv 98 99]
  (.cond (t 98)
  (sr [mv 100 9, mv 101 10, ls 102 100 101, od 103 (.mkIface 4 (t 102)),
 mv 4 103]
  .ret)
  (sr [eq 105 97 8, mv 104 105]
  (.cond (t 104)
  (sr [mv 106 9, mv 107 10, od 108 (.bin .add (t 106) (t 107)), ca 109 1760 418 [(t 108)],
 od 110 (.mkIface 3 (t 109)), mv 4 110]
  .ret)
  (sr [eq 112 97 9, mv 111 112]
  (.cond (t 111)
  (sr [mv 113 9, mv 114 10, od 115 (.bin .sub (t 113) (t 114)), ca 116 1872 418 [(t 115)],
 od 117 (.mkIface 3 (t 116)), mv 4 117]
  .ret)
  (sr [eq 119 97 10, mv 118 119]
  (.cond (t 118)
  (sr [mv 120 9, mv 121 10, od 122 (.bin .mul (t 120) (t 121)), ca 123 1984 418 [(t 122)],
 od 124 (.mkIface 3 (t 123)), mv 4 124]
  .ret)
  (sr [eq 126 97 11, mv 125 126]
  (.cond (t 125)
  (sr [mv 127 9, mv 128 10, od 129 (.min [(t 127), (t 128)]), od 130 (.mkIface 3 (t 129)),
 mv 4 130]
  .ret)
  .skip))))))))))))
  (sr [mv 131 9, mv 132 10, od 133 (.max [(t 131), (t 132)]), od 134 (.mkIface 3 (t 133)),
 mv 4 134]
  .ret))))
  .skip))))))
  (sr [od 4 (.move (.const (.nili)))]
  .ret)))))))
def f392 : AFunc := ⟨2, 135, [], [.tmp 4], f392_b⟩
abbrev f393_l0 : ACode :=
  (sr [ls 9 8 7]
  (.seq (.cond (t 9)
  .skip
  (.exit 0))
  (.seq (.block 1 (sr [mv 10 8, mv 5 10]
  (sr [mv 11 1, mv 12 0, mv 13 5, od 14 (.indexAddr 1 (t 12) (t 13)),
 ld 15 14, od 16 (.bin .eql (t 11) (t 15))]
  (.cond (t 16)
  (sr [mv 17 5, mv 4 17]
  .ret)
  .skip))))
  (rn [ad 18 8 1, mv 8 18]))))
def f393_b : ACode :=
  (sr [mc 4 0]
  (.seq (sr [mv 6 0, ln 7 6, mc 8 0]
  (.block 0 (.loop f393_l0)))
  (sr [mc 4 (-1)]
  .ret)))
def f393 : AFunc := ⟨2, 19, [], [.tmp 4], f393_b⟩
def f394_b : ACode :=
  (sr [od 0 (.new 16 5 (.const (.agg [i0, i0, .lit 1 [], .bool false, .bool false])))]
  (sr [od 1 (.build [i0, i0, .lit 1 [], .bool false, .bool false] [(0, 1, (ic 1)), (1, 1, (ic 1))]), ow (.store true 5 (t 0) (t 1))]
  .ret))
def f394 : AFunc := ⟨0, 2, [], [.cell 0 true 5], f394_b⟩
def f395_b : ACode :=
  (sr [od 0 (.new 16 5 (.const (.agg [i0, i0, .lit 1 [], .bool false, .bool false])))]
  (sr [od 1 (.build [i0, i0, .lit 1 [], .bool false, .bool false] []), ow (.store true 5 (t 0) (t 1))]
  .ret))
def f395 : AFunc := ⟨0, 2, [], [.cell 0 true 5], f395_b⟩
def f400_b : ACode :=
  (sr [od 2 (.new 48 7 (.const zE)), mc 3 0]
  (.seq (sr [mv 10 0, od 11 (.lenStr (t 10)), od 12 (.bin .gtr (t 11) (ic 4096))]
  (.cond (t 12)
  (sr [od 13 (.build [i0, i0, i0, i0, .bool false, .str [], .lit 7 []] []), ow (.store true 7 (t 2) (t 13)), mc 3 2]
  .ret)
  .skip))
  (sr [mv 15 0, ca 16 272 422 [(t 15)], mv 14 16, xt 17 14 0,
 xt 18 14 1, mv 4 17, mv 5 18]
  (.seq (sr [mv 19 5, od 20 (.un .not (t 19))]
  (.cond (t 20)
  (sr [od 21 (.build [i0, i0, i0, i0, .bool false, .str [], .lit 7 []] []), ow (.store true 7 (t 2) (t 21)), mc 3 4]
  .ret)
  .skip))
  (sr [mv 22 4, od 23 (.build [.lit 1 [], .bool false] [(0, 1, (t 22))]), od 24 (.new 400 2 (t 23)), mv 6 24]
  (sr [mv 25 6, ca 26 432 423 [(t 25)], od 7 (.new 128 7 (.const zE)), ow (.store true 7 (t 7) (t 26))]
  (.seq (sr [mv 27 6, od 28 (.nilCheck (t 27)), fa 29 1 28, ld 30 29,
 mv 31 30, og 32 (.move (t 6)) 31 false, og 33 (.nilCheck (t 32)) 31 false, og 34 (.fieldAddr 0 (t 33)) 31 false,
 og 35 (.load false 1 (t 34)) 31 false, og 36 (.len (t 35)) 31 false, og 37 (.bin .gtr (t 36) (ic 0)) 31 false, od 38 (.pick (t 31) (.const (.bool true)) (t 37))]
  (.cond (t 38)
  (sr [od 39 (.build [i0, i0, i0, i0, .bool false, .str [], .lit 7 []] []), ow (.store true 7 (t 2) (t 39)), mc 3 4]
  .ret)
  .skip))
  (sr [la 41 7 7, ca 42 688 341 [(t 41)], mv 40 42, xt 43 40 0,
 xt 44 40 1, mv 8 43, mv 9 44]
  (.seq (sr [mv 45 9, od 46 (.bin .neq (t 45) (ic 0))]
  (.cond (t 46)
  (sr [od 47 (.build [i0, i0, i0, i0, .bool false, .str [], .lit 7 []] []), mv 48 9, ow (.store true 7 (t 2) (t 47)), mv 3 48]
  .ret)
  .skip))
  (sr [la 49 7 7, ow (.store true 7 (t 2) (t 49)), mc 3 0]
  .ret))))))))))
def f400 : AFunc := ⟨1, 50, [], [.cell 2 true 7, .tmp 3], f400_b⟩
def f401_b : ACode :=
  (sr [mc 2 0, mc 3 0]
  (.seq (.block 0 (.seq (sr [mv 5 0, eq 6 5 1, mv 4 6]
  (.cond (t 4)
  .skip
  (rn [mv 7 0, eq 8 7 2, mv 4 8])))
  (.cond (t 4)
  (sr [mc 2 0, mc 3 0]
  .ret)
  (sr [mv 10 0, eq 11 10 3, mv 9 11]
  (.cond (t 9)
  (sr [mc 2 1, mc 3 1]
  .ret)
  (.seq (sr [mv 13 0, eq 14 13 4, mv 12 14]
  (.cond (t 12)
  .skip
  (rn [mv 15 0, eq 16 15 5, mv 12 16])))
  (.cond (t 12)
  (sr [mc 2 1, mc 3 2]
  .ret)
  (sr [mv 18 0, eq 19 18 6, mv 17 19]
  (.cond (t 17)
  (sr [mc 2 2, mc 3 2]
  .ret)
  (sr [mv 21 0, eq 22 21 7, mv 20 22]
  (.cond (t 20)
  (sr [mc 2 3, mc 3 2]
  .ret)
  (sr [mv 24 0, od 25 (.bin .geq (t 24) (ic 8)), mv 26 25, og 27 (.move (t 0)) 26 true,
 og 28 (.bin .leq (t 27) (ic 12)) 26 true, od 29 (.pick (t 26) (t 28) (.const (.bool false))), mv 23 29]
  (.cond (t 23)
  (sr [mc 2 4, mc 3 2]
  .ret)
  (sr [mv 31 0, eq 32 31 13, mv 30 32]
  (.cond (t 30)
  (sr [mc 2 5, mc 3 3]
  .ret)
  .skip)))))))))))))))
  (sr [mc 2 0, mc 3 (-1)]
  .ret)))
def f401 : AFunc := ⟨1, 33, [], [.tmp 2, .tmp 3], f401_b⟩
def f402_b : ACode :=
  (sr [od 2 (.new 48 1 (t 0)), od 3 (.move (.const (.bool false)))]
  (sr [ld 4 1, od 5 (.mkFunc 403 [(t 2)]), ca 6 112 259 [(t 4), (t 5)], od 7 (.un .not (t 6)),
 mv 3 7]
  .ret))
def f402 : AFunc := ⟨2, 8, [], [.tmp 3], f402_b⟩
def f259_b : ACode :=
  (sr [od 4 (.move (.const (.bool false)))]
  (sr [mv 5 0, mv 6 1, ca 7 128 280 [(t 5), (t 6)], od 8 (.bin .geq (t 7) (ic 0)),
 mv 4 8]
  .ret))
def f259 : AFunc := ⟨2, 9, [], [.tmp 4], f259_b⟩
def f403_b : ACode :=
  (sr [od 3 (.move (.const (.bool false)))]
  (sr [mv 4 0, ld 5 1, od 6 (.bin .neq (t 4) (t 5)), mv 3 6]
  .ret))
def f403 : AFunc := ⟨2, 7, [], [.tmp 3], f403_b⟩
def f404_b : ACode :=
  (sr [od 1 (.new 32 4 (t 0)), od 2 (.move (.const (.nili)))]
  (sr [od 3 (.move (.const (.nili)))]
  (.seq (sr [fa 4 0 1, ld 5 4]
  (.block 0 (sr [eq 7 5 1, mv 6 7]
  (.cond (t 6)
  (.seq (.drawn [fa 8 1 1, op 9 (.load false 1 (t 8)) [0], fa 10 1 1, op 11 (.load false 1 (t 10)) [2],
 op 12 (.call 208 false (fc 418) [(t 11)]) [3], op 13 (.bin .eql (t 9) (t 12)) [1, 4]])
  (.cond (t 13)
  (rn [fa 14 1 1, ld 15 14, od 16 (.mkIface 3 (t 15)), mv 3 16])
  .skip))
  (sr [eq 18 5 2, mv 17 18]
  (.cond (t 17)
  (rn [fa 19 2 1, ld 20 19, od 21 (.mkIface 4 (t 20)), mv 3 21])
  (sr [eq 23 5 3, mv 22 23]
  (.cond (t 22)
  (sr [fa 24 3 1, ld 25 24, od 26 (.lenStr (t 25)), od 27 (.bin .leq (t 26) (ic 24)),
 mv 28 27, og 29 (.fieldAddr 3 (t 1)) 28 true, og 30 (.load false 1 (t 29)) 28 true, og 31 (.call 512 false (fc 424) [(t 30), (fc 425)]) 28 true,
 og 32 (.bin .lss (t 31) (ic 0)) 28 true, od 33 (.pick (t 28) (t 32) (.const (.bool false)))]
  (.cond (t 33)
  (rn [fa 34 3 1, ld 35 34, od 36 (.mkIface 9 (t 35)), mv 3 36])
  .skip))
  .skip))))))))
  (.seq (.seq (.drawn [mv 37 3, op 38 (.call 624 false (fc 391) [(t 37)]) [0], la 39 4 1, op 40 (.eqA true [1, 1, 0, 2] (t 38) (t 39)) [1, 2]])
  (.cond (t 40)
  (sr [od 2 (.move (.const (.nili)))]
  .ret)
  .skip))
  (sr [mv 41 3, mv 2 41]
  .ret)))))
def f404 : AFunc := ⟨1, 42, [], [.tmp 2], f404_b⟩
def f405_b : ACode :=
  (sr [od 2 (.new 48 9 (t 0)), od 4 (.move (.const (.nili)))]
  (.seq (sr [mv 5 1]
  (.block 0 (sr [eq 7 5 1, mv 6 7]
  (.cond (t 6)
  (sr [fa 8 0 2, ld 9 8, ca 10 176 418 [(t 9)], od 11 (.mkIface 3 (t 10)),
 mv 4 11]
  .ret)
  (sr [eq 13 5 2, mv 12 13]
  (.cond (t 12)
  (sr [fa 14 1 2, ld 15 14, od 16 (.mkIface 9 (t 15)), mv 4 16]
  .ret)
  (sr [eq 18 5 3, mv 17 18]
  (.cond (t 17)
  (sr [fa 19 2 2, ld 20 19, od 21 (.mkIface 9 (t 20)), mv 4 21]
  .ret)
  (sr [eq 23 5 4, mv 22 23]
  (.cond (t 22)
  (sr [fa 24 3 2, ld 25 24, ca 26 432 418 [(t 25)], od 27 (.mkIface 3 (t 26)),
 mv 4 27]
  .ret)
  (sr [eq 29 5 5, mv 28 29]
  (.cond (t 28)
  (sr [fa 30 4 2, ld 31 30, ca 32 528 418 [(t 31)], od 33 (.mkIface 3 (t 32)),
 mv 4 33]
  .ret)
  (sr [eq 35 5 6, mv 34 35]
  (.cond (t 34)
  (sr [fa 36 5 2, ld 37 36, od 38 (.mkIface 4 (t 37)), mv 4 38]
  .ret)
  (sr [eq 40 5 7, mv 39 40]
  (.cond (t 39)
  (sr [fa 41 6 2, ld 42 41, ca 43 704 418 [(t 42)], od 44 (.mkIface 3 (t 43)),
 mv 4 44]
  .ret)
  (sr [eq 46 5 8, mv 45 46]
  (.cond (t 45)
  (sr [fa 47 7 2, ld 48 47, ca 49 800 418 [(t 48)], od 50 (.mkIface 3 (t 49)),
 mv 4 50]
  .ret)
  (sr [eq 52 5 9, mv 51 52]
  (.cond (t 51)
  (sr [fa 53 8 2, ld 54 53, ca 55 896 418 [(t 54)], od 56 (.mkIface 3 (t 55)),
 mv 4 56]
  .ret)
  .skip))))))))))))))))))))
  (sr [od 4 (.move (.const (.nili)))]
  .ret)))
def f405 : AFunc := ⟨2, 57, [], [.tmp 4], f405_b⟩
def f406_b : ACode :=
  (sr [od 2 (.new 48 4 (t 0)), od 3 (.move (.const (.bool false)))]
  (sr [fa 4 3 2, ld 5 4, ld 6 1, ca 7 128 349 [(t 5), (t 6)],
 od 8 (.un .not (t 7)), mv 3 8]
  .ret))
def f406 : AFunc := ⟨2, 9, [], [.tmp 3], f406_b⟩
def f408_b : ACode :=
  (sr [od 2 (.new 48 5 (t 0)), od 3 (.new 64 5 (t 1)), od 4 (.new 80 5 (.const (.agg [i0, i0, .lit 1 [], .bool false, .bool false])))]
  (sr [fa 5 0 2, ld 6 5, fa 7 0 3, ld 8 7,
 od 9 (.min [(t 6), (t 8)]), fa 10 1 2, ld 11 10, fa 12 1 3,
 ld 13 12, od 14 (.min [(t 11), (t 13)]), od 15 (.build [i0, i0, .lit 1 [], .bool false, .bool false] [(0, 1, (t 9)), (1, 1, (t 14))]), ow (.store true 5 (t 4) (t 15))]
  .ret))
def f408 : AFunc := ⟨2, 16, [], [.cell 4 true 5], f408_b⟩
def f409_b : ACode :=
  (sr [od 2 (.new 48 5 (t 0)), od 3 (.new 64 5 (t 1)), od 4 (.new 80 5 (.const (.agg [i0, i0, .lit 1 [], .bool false, .bool false])))]
  (sr [fa 5 0 2, ld 6 5, fa 7 0 3, ld 8 7,
 od 9 (.max [(t 6), (t 8)]), fa 10 1 2, ld 11 10, fa 12 1 3,
 ld 13 12, od 14 (.max [(t 11), (t 13)]), od 15 (.build [i0, i0, .lit 1 [], .bool false, .bool false] [(0, 1, (t 9)), (1, 1, (t 14))]), ow (.store true 5 (t 4) (t 15))]
  .ret))
def f409 : AFunc := ⟨2, 16, [], [.cell 4 true 5], f409_b⟩
def f410_b : ACode :=
  (sr [od 2 (.new 48 5 (t 0)), od 3 (.new 64 5 (t 1)), od 4 (.new 80 5 (.const (.agg [i0, i0, .lit 1 [], .bool false, .bool false])))]
  (.seq (.block 0 (sr [fa 6 4 2, ld 7 6, mv 8 7, og 9 (.fieldAddr 3 (t 2)) 8 true,
 og 10 (.load false 1 (t 9)) 8 true, og 11 (.un .not (t 10)) 8 true, og 12 (.move (t 11)) 8 true, og 13 (.fieldAddr 3 (t 3)) 12 false,
 og 14 (.load false 1 (t 13)) 12 false, og 15 (.un .not (t 14)) 12 false, og 16 (.pick (t 12) (.const (.bool true)) (t 15)) 8 true, od 17 (.pick (t 8) (t 16) (.const (.bool false))),
 mv 5 17]
  (.cond (t 5)
  (sr [ca 18 304 377 [], ow (.store true 5 (t 4) (t 18))]
  .ret)
  (sr [fa 20 4 2, ld 21 20, mv 19 21]
  (.cond (t 19)
  (.seq (sr [fa 22 2 2, ld 23 22, od 24 (.mkFunc 427 [(t 3)]), ca 25 416 426 [(t 23), (t 24)],
 od 26 (.un .not (t 25))]
  (.cond (t 26)
  (sr [ca 27 448 395 [], ow (.store true 5 (t 4) (t 27))]
  .ret)
  .skip))
  (.seq (sr [fa 28 2 2, ld 29 28, ln 30 29, eq 31 30 1,
 mv 32 31, og 33 (.fieldAddr 2 (t 3)) 32 true, og 34 (.load false 1 (t 33)) 32 true, og 35 (.len (t 34)) 32 true,
 og 36 (.bin .eql (t 35) (ic 1)) 32 true, od 37 (.pick (t 32) (t 36) (.const (.bool false)))]
  (.cond (t 37)
  (sr [ca 38 624 394 [], ow (.store true 5 (t 4) (t 38))]
  .ret)
  .skip))
  (sr [ca 39 640 377 [], ow (.store true 5 (t 4) (t 39))]
  .ret)))
  (.seq (sr [fa 41 1 2, ld 42 41, fa 43 0 3, ld 44 43,
 ls 45 42 44, mv 40 45]
  (.cond (t 40)
  .skip
  (rn [fa 46 1 3, ld 47 46, fa 48 0 2, ld 49 48,
 ls 50 47 49, mv 40 50])))
  (.cond (t 40)
  (sr [ca 51 832 395 [], ow (.store true 5 (t 4) (t 51))]
  .ret)
  (sr [la 53 5 2, ca 54 880 416 [(t 53)], mv 55 54, og 56 (.load true 5 (t 3)) 55 true,
 og 57 (.call 928 false (fc 416) [(t 56)]) 55 true, od 58 (.pick (t 55) (t 57) (.const (.bool false))), mv 52 58]
  (.cond (t 52)
  (sr [ca 59 960 394 [], ow (.store true 5 (t 4) (t 59))]
  .ret)
  .skip)))))))))
  (sr [ca 60 976 377 [], ow (.store true 5 (t 4) (t 60))]
  .ret)))
def f410 : AFunc := ⟨2, 61, [], [.cell 4 true 5], f410_b⟩
def f411_b : ACode :=
  (sr [od 2 (.new 48 5 (t 0)), od 3 (.new 64 5 (t 1)), od 4 (.new 80 5 (.const (.agg [i0, i0, .lit 1 [], .bool false, .bool false])))]
  (.seq (.block 0 (sr [fa 6 1 2, ld 7 6, fa 8 0 3, ld 9 8,
 ls 10 7 9, mv 5 10]
  (.cond (t 5)
  (sr [ca 11 192 394 [], ow (.store true 5 (t 4) (t 11))]
  .ret)
  (sr [fa 13 0 2, ld 14 13, fa 15 1 3, ld 16 15,
 od 17 (.bin .geq (t 14) (t 16)), mv 12 17]
  (.cond (t 12)
  (sr [ca 18 304 395 [], ow (.store true 5 (t 4) (t 18))]
  .ret)
  .skip)))))
  (sr [ca 19 320 377 [], ow (.store true 5 (t 4) (t 19))]
  .ret)))
def f411 : AFunc := ⟨2, 20, [], [.cell 4 true 5], f411_b⟩
def f412_b : ACode :=
  (sr [od 2 (.new 48 5 (t 0)), od 3 (.new 64 5 (t 1)), od 4 (.new 80 5 (.const (.agg [i0, i0, .lit 1 [], .bool false, .bool false])))]
  (.seq (.drawn [fa 5 0 2, op 6 (.load false 1 (t 5)) [0], fa 7 0 3, op 8 (.load false 1 (t 7)) [2],
 op 9 (.bin .add (t 6) (t 8)) [1, 3], op 10 (.call 176 false (fc 428) [(t 9)]) [4], fa 11 1 2, op 12 (.load false 1 (t 11)) [6],
 fa 13 1 3, op 14 (.load false 1 (t 13)) [8], op 15 (.bin .add (t 12) (t 14)) [7, 9], op 16 (.call 272 false (fc 428) [(t 15)]) [10, 5],
 op 17 (.build [i0, i0, .lit 1 [], .bool false, .bool false] [(0, 1, (t 10)), (1, 1, (t 16))]) [5, 11], ⟨none, .store true 5 (t 4) (t 17), none, ([12, 11] ++ rg 13)⟩])
  .ret))
def f412 : AFunc := ⟨2, 18, [], [.cell 4 true 5], f412_b⟩
def f413_b : ACode :=
  (sr [od 2 (.new 48 5 (t 0)), od 3 (.new 64 5 (t 1)), od 4 (.new 80 5 (.const (.agg [i0, i0, .lit 1 [], .bool false, .bool false])))]
  (.seq (.drawn [fa 5 0 2, op 6 (.load false 1 (t 5)) [0], fa 7 1 3, op 8 (.load false 1 (t 7)) [2],
 op 9 (.bin .sub (t 6) (t 8)) [1, 3], op 10 (.call 176 false (fc 428) [(t 9)]) [4], fa 11 1 2, op 12 (.load false 1 (t 11)) [6],
 fa 13 0 3, op 14 (.load false 1 (t 13)) [8], op 15 (.bin .sub (t 12) (t 14)) [7, 9], op 16 (.call 272 false (fc 428) [(t 15)]) [10, 5],
 op 17 (.build [i0, i0, .lit 1 [], .bool false, .bool false] [(0, 1, (t 10)), (1, 1, (t 16))]) [5, 11], ⟨none, .store true 5 (t 4) (t 17), none, ([12, 11] ++ rg 13)⟩])
  .ret))
def f413 : AFunc := ⟨2, 18, [], [.cell 4 true 5], f413_b⟩
def f414_b : ACode :=
  (sr [od 2 (.new 48 5 (t 0)), od 3 (.new 64 5 (t 1)), od 4 (.new 80 5 (.const (.agg [i0, i0, .lit 1 [], .bool false, .bool false])))]
  (.seq (.drawn [fa 6 0 2, op 7 (.load false 1 (t 6)) [0], fa 8 0 3, op 9 (.load false 1 (t 8)) [2],
 op 10 (.bin .mul (t 7) (t 9)) [1, 3], op 11 (.call 192 false (fc 428) [(t 10)]) [4], fa 12 0 2, op 13 (.load false 1 (t 12)) [6],
 fa 14 1 3, op 15 (.load false 1 (t 14)) [8], op 16 (.bin .mul (t 13) (t 15)) [7, 9], op 17 (.call 288 false (fc 428) [(t 16)]) [10, 5],
 fa 18 1 2, op 19 (.load false 1 (t 18)) [12], fa 20 0 3, op 21 (.load false 1 (t 20)) [14],
 op 22 (.bin .mul (t 19) (t 21)) [13, 15], op 23 (.call 384 false (fc 428) [(t 22)]) [16, 11], fa 24 1 2, op 25 (.load false 1 (t 24)) [18],
 fa 26 1 3, op 27 (.load false 1 (t 26)) [20], op 28 (.bin .mul (t 25) (t 27)) [19, 21], op 29 (.call 480 false (fc 428) [(t 28)]) [22, 17],
 op 30 (.buildSlice 496 1 (i0) 4 [(0, (t 11)), (1, (t 17)), (2, (t 23)), (3, (t 29))]) [5, 11, 17, 23], op 5 (.ren 97 (t 30)) ([24, 23] ++ rg 25)])
  (sr [mv 31 5, ca 32 528 429 [(t 31)], mv 33 5, ca 34 560 430 [(t 33)],
 od 35 (.build [i0, i0, .lit 1 [], .bool false, .bool false] [(0, 1, (t 32)), (1, 1, (t 34))]), ow (.store true 5 (t 4) (t 35))]
  .ret)))
def f414 : AFunc := ⟨2, 36, [], [.cell 4 true 5], f414_b⟩
def f415_b : ACode :=
  (sr [mc 2 0]
  (.seq (sr [mv 3 0]
  (.block 0 (.seq (sr [eq 5 3 1, mv 4 5]
  (.cond (t 4)
  .skip
  (rn [eq 6 3 2, mv 4 6])))
  (.cond (t 4)
  (sr [mc 2 0]
  .ret)
  (sr [eq 8 3 3, mv 7 8]
  (.cond (t 7)
  (sr [mc 2 1]
  .ret)
  (sr [eq 10 3 13, mv 9 10]
  (.cond (t 9)
  (sr [mc 2 3]
  .ret)
  .skip))))))))
  (.seq (sr [mv 11 0, od 12 (.bin .geq (t 11) (ic 4)), mv 13 12, og 14 (.move (t 0)) 13 true,
 og 15 (.bin .leq (t 14) (ic 12)) 13 true, od 16 (.pick (t 13) (t 15) (.const (.bool false)))]
  (.cond (t 16)
  (sr [mc 2 2]
  .ret)
  .skip))
  (sr [mc 2 (-1)]
  .ret))))
def f415 : AFunc := ⟨1, 17, [], [.tmp 2], f415_b⟩
def f416_b : ACode :=
  (sr [od 1 (.new 32 5 (t 0)), od 2 (.move (.const (.bool false)))]
  (sr [fa 3 0 1, ld 4 3, fa 5 1 1, ld 6 5,
 od 7 (.bin .eql (t 4) (t 6)), mv 2 7]
  .ret))
def f416 : AFunc := ⟨1, 8, [], [.tmp 2], f416_b⟩
abbrev f417_l0 : ACode :=
  (.seq (sr [mv 16 7, od 17 (.bin .geq (t 16) (ic 0))]
  (.cond (t 17)
  .skip
  (.exit 0)))
  (.seq (.block 1 (sr [mv 20 0, mv 21 7, od 22 (.indexAddr 4 (t 20) (t 21)), fa 23 0 22,
 ld 24 23, mv 25 1, od 26 (.bin .eql (t 24) (t 25))]
  (.cond (t 26)
  (rn [mv 27 7, mv 6 27])
  .skip)))
  (rn [mv 18 7, od 19 (.bin .sub (t 18) (ic 1)), mv 7 19])))
abbrev f417_l1 : ACode :=
  (.seq (sr [mv 48 12, mv 49 0, ln 50 49, ls 51 48 50]
  (.cond (t 51)
  .skip
  (.exit 4)))
  (.seq (.block 5 (rn [mv 54 11, mv 55 54, og 56 (.move (t 0)) 55 true, og 57 (.move (t 12)) 55 true,
 og 58 (.indexAddr 4 (t 56) (t 57)) 55 true, og 59 (.fieldAddr 0 (t 58)) 55 true, og 60 (.load false 1 (t 59)) 55 true, og 61 (.move (t 1)) 55 true,
 og 62 (.bin .neq (t 60) (t 61)) 55 true, og 63 (.move (t 62)) 55 true, og 64 (.move (t 0)) 63 false, og 65 (.move (t 12)) 63 false,
 og 66 (.indexAddr 4 (t 64) (t 65)) 63 false, og 67 (.fieldAddr 3 (t 66)) 63 false, og 68 (.load false 1 (t 67)) 63 false, og 69 (.move (t 10)) 63 false,
 og 70 (.call 1136 false (fc 353) [(t 68), (t 69)]) 63 false, og 71 (.pick (t 63) (.const (.bool true)) (t 70)) 55 true, od 72 (.pick (t 55) (t 71) (.const (.bool false))), mv 11 72]))
  (rn [mv 52 12, ad 53 52 1, mv 12 53])))
abbrev f417_l2 : ACode :=
  (.seq (sr [mv 30 9, mv 31 0, mv 32 6, od 33 (.indexAddr 4 (t 31) (t 32)),
 fa 34 3 33, ld 35 34, ln 36 35, ls 37 30 36]
  (.cond (t 37)
  .skip
  (.exit 2)))
  (.seq (.block 3 (sr [mv 40 0, mv 41 6, od 42 (.indexAddr 4 (t 40) (t 41)), fa 43 3 42,
 ld 44 43, mv 45 9, od 46 (.indexAddr 1 (t 44) (t 45)), ld 47 46,
 mv 10 47]
  (sr [od 11 (.move (.const (.bool true)))]
  (.seq (sr [mc 12 0]
  (.block 4 (.loop f417_l1)))
  (sr [mv 73 11, mv 74 73, og 75 (.move (t 8)) 74 true, og 76 (.move (t 10)) 74 true,
 og 77 (.call 1248 false (fc 353) [(t 75), (t 76)]) 74 true, og 78 (.un .not (t 77)) 74 true, od 79 (.pick (t 74) (t 78) (.const (.bool false)))]
  (.cond (t 79)
  (rn [mv 80 8, mv 81 10, od 82 (.buildSlice 1328 1 (.str []) 1 [(0, (t 81))]), od 83 (.append 145 1 8278675785407 (t 80) (t 82)),
 od 8 (.ren 145 (t 83))])
  .skip))))))
  (rn [mv 38 9, ad 39 38 1, mv 9 39])))
def f417_b : ACode :=
  (sr [od 4 (.emptyBuf 81 1), od 5 (.move (.const (.bool false)))]
  (sr [mc 6 (-1)]
  (.seq (sr [mv 13 0, ln 14 13, od 15 (.bin .sub (t 14) (ic 1)), mv 7 15]
  (.block 0 (.loop f417_l0)))
  (.seq (sr [mv 28 6, od 29 (.bin .lss (t 28) (ic 0))]
  (.cond (t 29)
  (sr [od 4 (.emptyBuf 81 1), od 5 (.move (.const (.bool false)))]
  .ret)
  .skip))
  (sr [od 8 (.emptyBuf 145 1)]
  (.seq (sr [mc 9 0]
  (.block 2 (.loop f417_l2)))
  (sr [mv 84 8, mv 85 8, ln 86 85, od 87 (.bin .gtr (t 86) (ic 0)),
 mv 4 84, mv 5 87]
  .ret)))))))
def f417 : AFunc := ⟨2, 88, [], [.tmp 4, .tmp 5], f417_b⟩
def f418_b : ACode :=
  (sr [mc 2 0]
  (sr [mv 3 0, od 4 (.min [(t 3), (ic 1073741824)]), od 5 (.max [(ic (-1073741824)), (t 4)]), mv 2 5]
  .ret))
def f418 : AFunc := ⟨1, 6, [], [.tmp 2], f418_b⟩
abbrev f422_l0 : ACode :=
  (.seq (sr [mv 6 0, od 7 (.lenStr (t 6)), od 8 (.bin .gtr (t 7) (ic 0))]
  (.cond (t 8)
  .skip
  (.exit 0)))
  (.block 1 (.seq (sr [mv 9 0, od 10 (.indexStr (t 9) (ic 0)), od 11 (.bin .eql (t 10) (.const (.int .u8 32)))]
  (.cond (t 11)
  (sr [mv 12 0, od 13 (.sliceStr (t 12) (some (ic 1)) none), mv 0 13]
  (.exit 1))
  .skip))
  (sr [mv 14 0, ca 15 256 431 [(t 14)], mv 5 15]
  (.seq (sr [mv 16 5, eq 17 16 0]
  (.cond (t 17)
  (sr [od 2 (.emptyBuf 49 1), od 3 (.move (.const (.bool false)))]
  .ret)
  .skip))
  (sr [mv 18 4, mv 19 0, mv 20 5, od 21 (.sliceStr (t 19) none (some (t 20))),
 od 22 (.buildSlice 368 1 (.str []) 1 [(0, (t 21))]), od 23 (.append 81 1 8278675785407 (t 18) (t 22)), od 4 (.ren 81 (t 23))]
  (rn [mv 24 0, mv 25 5, od 26 (.sliceStr (t 24) (some (t 25)) none), mv 0 26])))))))
def f422_b : ACode :=
  (sr [od 2 (.emptyBuf 49 1), od 3 (.move (.const (.bool false)))]
  (sr [od 4 (.emptyBuf 81 1)]
  (.seq (.block 0 (.loop f422_l0))
  (sr [mv 27 4, mv 2 27, od 3 (.move (.const (.bool true)))]
  .ret))))
def f422 : AFunc := ⟨1, 28, [], [.tmp 2, .tmp 3], f422_b⟩
def f423_b : ACode :=
  (sr [od 2 (.new 48 7 (.const zE))]
  (.seq (sr [mv 7 0, od 8 (.nilCheck (t 7)), fa 9 1 8, ld 10 9]
  (.cond (t 10)
  (sr [od 11 (.build [i0, i0, i0, i0, .bool false, .str [], .lit 7 []] []), ow (.store true 7 (t 2) (t 11))]
  .ret)
  .skip))
  (.seq (sr [mv 12 0, ca 13 224 432 [(t 12)], od 14 (.bin .eql (t 13) (.const (.str [110, 111, 116])))]
  (.cond (t 14)
  (sr [mv 15 0, ca 16 272 433 [(t 15), (.const (.str [110, 111, 116]))]]
  (sr [mv 17 0, ca 18 304 434 [(t 17)], od 19 (.buildSlice 320 7 (.agg [i0, i0, i0, i0, .bool false, .str [], .nils]) 1 [(0, (t 18))]), od 20 (.build [i0, i0, i0, i0, .bool false, .str [], .lit 7 []] [(0, 1, (ic 3)), (6, 1, (t 19))]),
 ow (.store true 7 (t 2) (t 20))]
  .ret))
  .skip))
  (.seq (sr [mv 21 0, ca 22 368 432 [(t 21)], od 23 (.bin .eql (t 22) (.const (.str [105, 102])))]
  (.cond (t 23)
  (sr [mv 24 0, ca 25 416 433 [(t 24), (.const (.str [105, 102]))]]
  (sr [mv 26 0, ca 27 448 434 [(t 26)], od 3 (.new 64 7 (.const zE)), ow (.store true 7 (t 3) (t 27))]
  (sr [mv 28 0, ca 29 480 433 [(t 28), (.const (.str [116, 104, 101, 110]))]]
  (sr [mv 30 0, ca 31 512 434 [(t 30)], od 4 (.new 80 7 (.const zE)), ow (.store true 7 (t 4) (t 31))]
  (sr [mv 32 0, ca 33 544 433 [(t 32), (.const (.str [101, 108, 115, 101]))]]
  (.seq (.drawn [la 34 7 3, la 35 7 4, mv 36 0, op 37 (.call 608 false (fc 434) [(t 36)]) [2],
 op 38 (.buildSlice 624 7 (.agg [i0, i0, i0, i0, .bool false, .str [], .nils]) 3 [(0, (t 34)), (1, (t 35)), (2, (t 37))]) [0, 1, 3], op 39 (.build [i0, i0, i0, i0, .bool false, .str [], .lit 7 []] [(0, 1, (ic 13)), (6, 1, (t 38))]) [4], ⟨none, .store true 7 (t 2) (t 39), none, ([5, 3] ++ rg 6)⟩])
  .ret))))))
  .skip))
  (sr [mv 40 0, ca 41 672 434 [(t 40)], od 5 (.new 96 7 (.const zE)), ow (.store true 7 (t 5) (t 41))]
  (sr [ca 42 688 436 [], mv 43 0, ca 44 720 432 [(t 43)], ca 45 736 435 [(t 42), (t 44)],
 mv 6 45]
  (.seq (sr [mv 46 6, od 47 (.bin .lss (t 46) (ic 0))]
  (.cond (t 47)
  (sr [la 48 7 5, ow (.store true 7 (t 2) (t 48))]
  .ret)
  .skip))
  (sr [mv 49 0, mv 50 0, ca 51 832 432 [(t 50)], ca 52 848 433 [(t 49), (t 51)]]
  (.seq (.drawn [mv 53 6, op 54 (.bin .add (ic 4) (t 53)) [0], la 55 7 5, mv 56 0,
 op 57 (.call 928 false (fc 434) [(t 56)]) [3], op 58 (.buildSlice 944 7 (.agg [i0, i0, i0, i0, .bool false, .str [], .nils]) 2 [(0, (t 55)), (1, (t 57))]) [2, 4], op 59 (.build [i0, i0, i0, i0, .bool false, .str [], .lit 7 []] [(0, 1, (t 54)), (6, 1, (t 58))]) [1, 5], ⟨none, .store true 7 (t 2) (t 59), none, ([6, 4] ++ rg 7)⟩])
  .ret)))))))))
def f423 : AFunc := ⟨1, 60, [some 2], [.cell 2 true 7], f423_b⟩
abbrev f280_l0 : ACode :=
  (sr [ls 9 8 7]
  (.seq (.cond (t 9)
  .skip
  (.exit 0))
  (.seq (.block 1 (sr [mv 10 8, mv 5 10]
  (sr [mv 11 1, mv 12 0, mv 13 5, od 14 (.indexAddr 1 (t 12) (t 13)),
 ld 15 14, od 16 (.call 272 false (t 11) [(t 15)])]
  (.cond (t 16)
  (sr [mv 17 5, mv 4 17]
  .ret)
  .skip))))
  (rn [ad 18 8 1, mv 8 18]))))
def f280_b : ACode :=
  (sr [mc 4 0]
  (.seq (sr [mv 6 0, ln 7 6, mc 8 0]
  (.block 0 (.loop f280_l0)))
  (sr [mc 4 (-1)]
  .ret)))
def f280 : AFunc := ⟨2, 19, [], [.tmp 4], f280_b⟩
def f424_b : ACode :=
  (sr [mc 4 0]
  (sr [mv 5 0, mv 6 1, ca 7 128 437 [(t 5), (t 6), (.const (.bool true))], mv 4 7]
  .ret))
def f424 : AFunc := ⟨2, 8, [], [.tmp 4], f424_b⟩
def f425_b : ACode :=
  (sr [od 2 (.move (.const (.bool false)))]
  (sr [mv 3 0, od 4 (.bin .lss (t 3) (.const (.int .i32 32))), mv 5 4, og 6 (.move (t 0)) 5 false,
 og 7 (.bin .gtr (t 6) (.const (.int .i32 126))) 5 false, od 8 (.pick (t 5) (.const (.bool true)) (t 7)), mv 9 8, og 10 (.move (t 0)) 9 false,
 og 11 (.bin .eql (t 10) (.const (.int .i32 34))) 9 false, od 12 (.pick (t 9) (.const (.bool true)) (t 11)), mv 2 12]
  .ret))
def f425 : AFunc := ⟨1, 13, [], [.tmp 2], f425_b⟩
def f426_b : ACode :=
  (sr [od 4 (.move (.const (.bool false)))]
  (sr [mv 5 0, mv 6 1, ca 7 128 438 [(t 5), (t 6)], od 8 (.bin .geq (t 7) (ic 0)),
 mv 4 8]
  .ret))
def f426 : AFunc := ⟨2, 9, [], [.tmp 4], f426_b⟩
def f427_b : ACode :=
  (sr [od 3 (.move (.const (.bool false)))]
  (sr [fa 4 2 1, ld 5 4, mv 6 0, ca 7 128 349 [(t 5), (t 6)],
 mv 3 7]
  .ret))
def f427 : AFunc := ⟨2, 8, [], [.tmp 3], f427_b⟩
def f428_b : ACode :=
  (sr [mc 2 0]
  (sr [mv 3 0, od 4 (.min [(t 3), (ic 1073741824)]), od 5 (.max [(ic (-1073741824)), (t 4)]), mv 2 5]
  .ret))
def f428 : AFunc := ⟨1, 6, [], [.tmp 2], f428_b⟩
abbrev f429_l0 : ACode :=
  (.seq (sr [mv 12 4, mv 13 0, ln 14 13, ls 15 12 14]
  (.cond (t 15)
  .skip
  (.exit 0)))
  (.seq (.block 1 (rn [mv 18 3, mv 19 0, mv 20 4, od 21 (.indexAddr 1 (t 19) (t 20)),
 ld 22 21, od 23 (.min [(t 18), (t 22)]), mv 3 23]))
  (rn [mv 16 4, ad 17 16 1, mv 4 17])))
def f429_b : ACode :=
  (sr [mc 2 0]
  (.seq (sr [mv 5 0, ln 6 5, od 7 (.bin .lss (t 6) (ic 1))]
  (.cond (t 7)
  (rn [od 8 (.mkIface 9 (.const (.str [115, 108, 105, 99, 101, 115, 46, 77, 105, 110, 58, 32, 101, 109, 112, 116, 121, 32, 108, 105, 115, 116]))), ow (.bad)])
  .skip))
  (sr [mv 9 0, od 10 (.indexAddr 1 (t 9) (ic 0)), ld 11 10, mv 3 11]
  (.seq (sr [mc 4 1]
  (.block 0 (.loop f429_l0)))
  (sr [mv 24 3, mv 2 24]
  .ret)))))
def f429 : AFunc := ⟨1, 25, [], [.tmp 2], f429_b⟩
abbrev f430_l0 : ACode :=
  (.seq (sr [mv 12 4, mv 13 0, ln 14 13, ls 15 12 14]
  (.cond (t 15)
  .skip
  (.exit 0)))
  (.seq (.block 1 (rn [mv 18 3, mv 19 0, mv 20 4, od 21 (.indexAddr 1 (t 19) (t 20)),
 ld 22 21, od 23 (.max [(t 18), (t 22)]), mv 3 23]))
  (rn [mv 16 4, ad 17 16 1, mv 4 17])))
def f430_b : ACode :=
  (sr [mc 2 0]
  (.seq (sr [mv 5 0, ln 6 5, od 7 (.bin .lss (t 6) (ic 1))]
  (.cond (t 7)
  (rn [od 8 (.mkIface 9 (.const (.str [115, 108, 105, 99, 101, 115, 46, 77, 97, 120, 58, 32, 101, 109, 112, 116, 121, 32, 108, 105, 115, 116]))), ow (.bad)])
  .skip))
  (sr [mv 9 0, od 10 (.indexAddr 1 (t 9) (ic 0)), ld 11 10, mv 3 11]
  (.seq (sr [mc 4 1]
  (.block 0 (.loop f430_l0)))
  (sr [mv 24 3, mv 2 24]
  .ret)))))
def f430 : AFunc := ⟨1, 25, [], [.tmp 2], f430_b⟩
abbrev f431_l0 : ACode :=
  (.seq (sr [mv 12 3, mv 13 0, od 14 (.lenStr (t 13)), ls 15 12 14,
 mv 16 15, og 17 (.move (t 0)) 16 true, og 18 (.move (t 3)) 16 true, og 19 (.indexStr (t 17) (t 18)) 16 true,
 og 20 (.call 336 false (fc 439) [(t 19)]) 16 true, og 21 (.bin .eql (t 20) (.const (.int .u8 97))) 16 true, od 22 (.pick (t 16) (t 21) (.const (.bool false)))]
  (.cond (t 22)
  .skip
  (.exit 1)))
  (.block 2 (rn [mv 23 3, ad 24 23 1, mv 3 24])))
abbrev f431_l1 : ACode :=
  (.seq (sr [mv 35 3, mv 36 0, od 37 (.lenStr (t 36)), ls 38 35 37,
 mv 39 38, og 40 (.move (t 0)) 39 true, og 41 (.move (t 3)) 39 true, og 42 (.indexStr (t 40) (t 41)) 39 true,
 og 43 (.bin .neq (t 42) (.const (.int .u8 34))) 39 true, od 44 (.pick (t 39) (t 43) (.const (.bool false)))]
  (.cond (t 44)
  .skip
  (.exit 3)))
  (.block 4 (.seq (sr [mv 45 0, mv 46 3, od 47 (.indexStr (t 45) (t 46)), od 48 (.bin .lss (t 47) (.const (.int .u8 32))),
 mv 49 48, og 50 (.move (t 0)) 49 false, og 51 (.move (t 3)) 49 false, og 52 (.indexStr (t 50) (t 51)) 49 false,
 og 53 (.bin .gtr (t 52) (.const (.int .u8 126))) 49 false, od 54 (.pick (t 49) (.const (.bool true)) (t 53))]
  (.cond (t 54)
  (sr [mc 2 0]
  .ret)
  .skip))
  (rn [mv 55 3, ad 56 55 1, mv 3 56]))))
abbrev f431_l2 : ACode :=
  (.seq (sr [mv 79 3, mv 80 0, od 81 (.lenStr (t 80)), ls 82 79 81,
 mv 83 82, og 84 (.move (t 0)) 83 true, og 85 (.move (t 3)) 83 true, og 86 (.indexStr (t 84) (t 85)) 83 true,
 og 87 (.call 1408 false (fc 439) [(t 86)]) 83 true, og 88 (.bin .eql (t 87) (.const (.int .u8 48))) 83 true, od 89 (.pick (t 83) (t 88) (.const (.bool false)))]
  (.cond (t 89)
  .skip
  (.exit 5)))
  (.block 6 (rn [mv 90 3, ad 91 90 1, mv 3 91])))
def f431_b : ACode :=
  (sr [mc 2 0]
  (sr [mc 3 1]
  (.seq (sr [mv 6 0, od 7 (.indexStr (t 6) (ic 0)), ca 8 144 439 [(t 7)], mv 4 8]
  (sr [mv 9 4]
  (.block 0 (sr [od 11 (.bin .eql (t 9) (.const (.int .u8 97))), mv 10 11]
  (.cond (t 10)
  (.seq (.block 1 (.loop f431_l0))
  (sr [mv 25 3, mv 2 25]
  .ret))
  (.seq (sr [od 27 (.bin .eql (t 9) (.const (.int .u8 40))), mv 26 27]
  (.cond (t 26)
  .skip
  (sr [od 28 (.bin .eql (t 9) (.const (.int .u8 41))), mv 26 28]
  (.cond (t 26)
  .skip
  (sr [od 29 (.bin .eql (t 9) (.const (.int .u8 61))), mv 26 29]
  (.cond (t 26)
  .skip
  (sr [od 30 (.bin .eql (t 9) (.const (.int .u8 60))), mv 26 30]
  (.cond (t 26)
  .skip
  (sr [od 31 (.bin .eql (t 9) (.const (.int .u8 43))), mv 26 31]
  (.cond (t 26)
  .skip
  (rn [od 32 (.bin .eql (t 9) (.const (.int .u8 42))), mv 26 32])))))))))))
  (.cond (t 26)
  (sr [mc 2 1]
  .ret)
  (sr [od 34 (.bin .eql (t 9) (.const (.int .u8 34))), mv 33 34]
  (.cond (t 33)
  (.seq (.block 3 (.loop f431_l1))
  (.seq (sr [mv 57 3, mv 58 0, od 59 (.lenStr (t 58)), od 60 (.bin .eql (t 57) (t 59))]
  (.cond (t 60)
  (sr [mc 2 0]
  .ret)
  .skip))
  (sr [mv 61 3, ad 62 61 1, mv 2 62]
  .ret)))
  (.seq (sr [od 64 (.bin .eql (t 9) (.const (.int .u8 45))), mv 63 64]
  (.cond (t 63)
  .skip
  (rn [od 65 (.bin .eql (t 9) (.const (.int .u8 48))), mv 63 65])))
  (.cond (t 63)
  (.seq (sr [mv 66 4, od 67 (.bin .eql (t 66) (.const (.int .u8 45))), mv 68 67, og 69 (.move (t 0)) 68 true,
 og 70 (.lenStr (t 69)) 68 true, og 71 (.bin .eql (t 70) (ic 1)) 68 true, og 72 (.move (t 71)) 68 true, og 73 (.move (t 0)) 72 false,
 og 74 (.indexStr (t 73) (ic 1)) 72 false, og 75 (.call 1216 false (fc 439) [(t 74)]) 72 false, og 76 (.bin .neq (t 75) (.const (.int .u8 48))) 72 false, og 77 (.pick (t 72) (.const (.bool true)) (t 76)) 68 true,
 od 78 (.pick (t 68) (t 77) (.const (.bool false)))]
  (.cond (t 78)
  (sr [mc 2 1]
  .ret)
  .skip))
  (.seq (.block 5 (.loop f431_l2))
  (sr [mv 92 0, mv 93 3, od 94 (.sliceStr (t 92) none (some (t 93))), mv 5 94]
  (.seq (sr [mv 95 4, od 96 (.bin .eql (t 95) (.const (.int .u8 45)))]
  (.cond (t 96)
  (rn [mv 97 0, mv 98 3, od 99 (.sliceStr (t 97) (some (ic 1)) (some (t 98))), mv 5 99])
  .skip))
  (.seq (sr [mv 100 5, od 101 (.lenStr (t 100)), od 102 (.bin .gtr (t 101) (ic 10)), mv 103 102,
 og 104 (.move (t 5)) 103 false, og 105 (.indexStr (t 104) (ic 0)) 103 false, og 106 (.bin .eql (t 105) (.const (.int .u8 48))) 103 false, og 107 (.move (t 106)) 103 false,
 og 108 (.move (t 5)) 107 true, og 109 (.lenStr (t 108)) 107 true, og 110 (.bin .gtr (t 109) (ic 1)) 107 true, og 111 (.move (t 110)) 107 true,
 og 112 (.move (t 4)) 111 false, og 113 (.bin .eql (t 112) (.const (.int .u8 45))) 111 false, og 114 (.pick (t 111) (.const (.bool true)) (t 113)) 107 true, og 115 (.pick (t 107) (t 114) (.const (.bool false))) 103 false,
 od 116 (.pick (t 103) (.const (.bool true)) (t 115))]
  (.cond (t 116)
  (sr [mc 2 0]
  .ret)
  .skip))
  (sr [mv 117 3, mv 2 117]
  .ret))))))
  .skip)))))))))))
  (sr [mc 2 0]
  .ret))))
def f431 : AFunc := ⟨1, 118, [], [.tmp 2], f431_b⟩
def f432_b : ACode :=
  (sr [od 2 (.move (.const (.str [])))]
  (.seq (sr [mv 3 0, od 4 (.nilCheck (t 3)), fa 5 0 4, ld 6 5,
 ln 7 6, eq 8 7 0]
  (.cond (t 8)
  (sr [od 2 (.move (.const (.str [])))]
  .ret)
  .skip))
  (sr [mv 9 0, od 10 (.nilCheck (t 9)), fa 11 0 10, ld 12 11,
 od 13 (.indexAddr 1 (t 12) (ic 0)), ld 14 13, mv 2 14]
  .ret)))
def f432 : AFunc := ⟨1, 15, [some 2], [.tmp 2], f432_b⟩
def f433_b : ACode :=
  (.seq (sr [mv 4 0, ca 5 96 432 [(t 4)], mv 6 1, od 7 (.bin .neq (t 5) (t 6))]
  (.cond (t 7)
  (sr [mv 8 0, od 9 (.nilCheck (t 8)), fa 10 1 9, ow (.store false 1 (t 10) (.const (.bool true)))]
  .ret)
  .skip))
  (rn [mv 11 0, mv 12 0, od 13 (.nilCheck (t 12)), fa 14 0 13,
 ld 15 14, od 16 (.slice 1 (t 15) (some (ic 1)) none none), od 17 (.nilCheck (t 11)), fa 18 0 17,
 ow (.store false 1 (t 18) (t 16))]))
def f433 : AFunc := ⟨2, 19, [some 2, none], [], f433_b⟩
def f434_b : ACode :=
  (sr [od 2 (.new 48 7 (.const zE))]
  (sr [mv 8 0, ca 9 160 432 [(t 8)], mv 3 9]
  (.seq (sr [mv 10 3, od 11 (.bin .eql (t 10) (.const (.str [])))]
  (.cond (t 11)
  (sr [mv 12 0, od 13 (.nilCheck (t 12)), fa 14 1 13, ow (.store false 1 (t 14) (.const (.bool true)))]
  (sr [od 15 (.build [i0, i0, i0, i0, .bool false, .str [], .lit 7 []] []), ow (.store true 7 (t 2) (t 15))]
  .ret))
  .skip))
  (sr [mv 16 0, mv 17 3, ca 18 304 433 [(t 16), (t 17)]]
  (.seq (sr [mv 19 3, od 20 (.bin .eql (t 19) (.const (.str [40])))]
  (.cond (t 20)
  (sr [mv 21 0, ca 22 368 423 [(t 21)], od 4 (.new 80 7 (.const zE)), ow (.store true 7 (t 4) (t 22))]
  (sr [mv 23 0, ca 24 400 433 [(t 23), (.const (.str [41]))]]
  (sr [la 25 7 4, ow (.store true 7 (t 2) (t 25))]
  .ret)))
  .skip))
  (sr [ca 26 432 440 [], mv 27 3, ca 28 464 435 [(t 26), (t 27)], mv 5 28]
  (.seq (sr [mv 29 5, od 30 (.bin .geq (t 29) (ic 0))]
  (.cond (t 30)
  (sr [mv 31 5, ad 32 31 1, od 33 (.build [i0, i0, i0, i0, .bool false, .str [], .lit 7 []] [(0, 1, (ic 2)), (1, 1, (t 32))]), ow (.store true 7 (t 2) (t 33))]
  .ret)
  .skip))
  (sr [mv 35 3, ca 36 592 441 [(t 35)], mv 34 36, xt 37 34 0,
 xt 38 34 1, od 6 (.new 112 7 (.const zE)), ow (.store true 7 (t 6) (t 37)), mv 7 38]
  (.seq (sr [mv 39 7, od 40 (.un .not (t 39))]
  (.cond (t 40)
  (rn [mv 41 0, od 42 (.nilCheck (t 41)), fa 43 1 42, ow (.store false 1 (t 43) (.const (.bool true)))])
  .skip))
  (sr [la 44 7 6, ow (.store true 7 (t 2) (t 44))]
  .ret))))))))))
def f434 : AFunc := ⟨1, 45, [some 2], [.cell 2 true 7], f434_b⟩
abbrev f435_l0 : ACode :=
  (.seq (sr [mv 6 5, mv 7 0, ln 8 7, ls 9 6 8]
  (.cond (t 9)
  .skip
  (.exit 0)))
  (.seq (.block 1 (sr [mv 12 0, mv 13 5, od 14 (.indexAddr 1 (t 12) (t 13)), ld 15 14,
 mv 16 1, od 17 (.bin .eql (t 15) (t 16))]
  (.cond (t 17)
  (sr [mv 18 5, mv 4 18]
  .ret)
  .skip)))
  (rn [mv 10 5, ad 11 10 1, mv 5 11])))
def f435_b : ACode :=
  (sr [mc 4 0]
  (.seq (sr [mc 5 0]
  (.block 0 (.loop f435_l0)))
  (sr [mc 4 (-1)]
  .ret)))
def f435 : AFunc := ⟨2, 19, [], [.tmp 4], f435_b⟩
def f436_b : ACode :=
  (sr [od 0 (.move (.const (.lit 1 [])))]
  (sr [od 1 (.buildSlice 32 1 (.str []) 9 [(0, (.const (.str [97, 110, 100]))), (1, (.const (.str [111, 114]))), (2, (.const (.str [61]))), (3, (.const (.str [60]))), (4, (.const (.str [43]))), (5, (.const (.str [45]))), (6, (.const (.str [42]))), (7, (.const (.str [109, 105, 110]))), (8, (.const (.str [109, 97, 120])))]), mv 0 1]
  .ret))
def f436 : AFunc := ⟨0, 2, [], [.tmp 0], f436_b⟩
abbrev f437_l0 : ACode :=
  (sr [od 11 (.strNext (t 10)), xt 12 11 0]
  (.seq (.cond (t 12)
  .skip
  (.exit 0))
  (.block 1 (sr [xt 13 11 1, xt 14 11 2, mv 7 13, mv 8 14]
  (sr [mv 15 1, mv 16 8, od 17 (.call 288 false (t 15) [(t 16)]), mv 18 2,
 od 19 (.eqB false (t 17) (t 18))]
  (.cond (t 19)
  (sr [mv 20 7, mv 6 20]
  .ret)
  .skip))))))
def f437_b : ACode :=
  (sr [mc 6 0]
  (.seq (sr [mv 9 0, od 10 (.strIter 176 (t 9))]
  (.block 0 (.loop f437_l0)))
  (sr [mc 6 (-1)]
  .ret)))
def f437 : AFunc := ⟨3, 21, [], [.tmp 6], f437_b⟩
abbrev f438_l0 : ACode :=
  (sr [ls 9 8 7]
  (.seq (.cond (t 9)
  .skip
  (.exit 0))
  (.seq (.block 1 (sr [mv 10 8, mv 5 10]
  (sr [mv 11 1, mv 12 0, mv 13 5, od 14 (.indexAddr 1 (t 12) (t 13)),
 ld 15 14, od 16 (.call 272 false (t 11) [(t 15)])]
  (.cond (t 16)
  (sr [mv 17 5, mv 4 17]
  .ret)
  .skip))))
  (rn [ad 18 8 1, mv 8 18]))))
def f438_b : ACode :=
  (sr [mc 4 0]
  (.seq (sr [mv 6 0, ln 7 6, mc 8 0]
  (.block 0 (.loop f438_l0)))
  (sr [mc 4 (-1)]
  .ret)))
def f438 : AFunc := ⟨2, 19, [], [.tmp 4], f438_b⟩
def f439_b : ACode :=
  (sr [od 2 (.move (.const (.int .u8 0)))]
  (.seq (sr [mv 3 0, od 4 (.bin .geq (t 3) (.const (.int .u8 97))), mv 5 4, og 6 (.move (t 0)) 5 true,
 og 7 (.bin .leq (t 6) (.const (.int .u8 122))) 5 true, od 8 (.pick (t 5) (t 7) (.const (.bool false)))]
  (.cond (t 8)
  (sr [od 2 (.move (.const (.int .u8 97)))]
  .ret)
  .skip))
  (.seq (sr [mv 9 0, od 10 (.bin .geq (t 9) (.const (.int .u8 48))), mv 11 10, og 12 (.move (t 0)) 11 true,
 og 13 (.bin .leq (t 12) (.const (.int .u8 57))) 11 true, od 14 (.pick (t 11) (t 13) (.const (.bool false)))]
  (.cond (t 14)
  (sr [od 2 (.move (.const (.int .u8 48)))]
  .ret)
  .skip))
  (sr [mv 15 0, mv 2 15]
  .ret))))
def f439 : AFunc := ⟨1, 16, [], [.tmp 2], f439_b⟩
def f440_b : ACode :=
  (sr [od 0 (.move (.const (.lit 1 [])))]
  (sr [od 1 (.buildSlice 32 1 (.str []) 9 [(0, (.const (.str [107, 105, 110, 100]))), (1, (.const (.str [99, 108, 97, 115, 115]))), (2, (.const (.str [110, 97, 109, 101]))), (3, (.const (.str [119, 101, 105, 103, 104, 116]))), (4, (.const (.str [108, 101, 118, 101, 108]))), (5, (.const (.str [115, 116, 97, 105, 114, 115]))), (6, (.const (.str [115, 99, 97, 108, 101]))), (7, (.const (.str [104, 111, 117, 114]))), (8, (.const (.str [114, 101, 97, 100, 101, 114])))]), mv 0 1]
  .ret))
def f440 : AFunc := ⟨0, 2, [], [.tmp 0], f440_b⟩
abbrev f441_l0 : ACode :=
  (.seq (sr [mv 46 6, mv 47 0, od 48 (.lenStr (t 47)), ls 49 46 48]
  (.cond (t 49)
  .skip
  (.exit 1)))
  (.seq (.block 2 (sr [mv 52 0, mv 53 6, od 54 (.indexStr (t 52) (t 53)), od 55 (.bin .neq (t 54) (.const (.int .u8 45)))]
  (.cond (t 55)
  (rn [mv 56 5, od 57 (.bin .mul (ic 10) (t 56)), mv 58 0, mv 59 6,
 od 60 (.indexStr (t 58) (t 59)), od 61 (.bin .sub (t 60) (.const (.int .u8 48))), od 62 (.convInt .i64 (t 61)), od 63 (.bin .add (t 57) (t 62)),
 mv 5 63])
  .skip)))
  (rn [mv 50 6, ad 51 50 1, mv 6 51])))
def f441_b : ACode :=
  (sr [od 2 (.new 48 7 (.const zE)), od 3 (.move (.const (.bool false)))]
  (sr [od 7 (.build [i0, i0, i0, i0, .bool false, .str [], .lit 7 []] [(0, 1, (ic 1))]), od 4 (.new 80 7 (.const zE)), ow (.store true 7 (t 4) (t 7))]
  (.seq (.block 0 (sr [mv 10 0, od 11 (.bin .eql (t 10) (.const (.str [116, 114, 117, 101]))), mv 12 11, og 13 (.move (t 0)) 12 false,
 og 14 (.bin .eql (t 13) (.const (.str [102, 97, 108, 115, 101]))) 12 false, od 15 (.pick (t 12) (.const (.bool true)) (t 14)), mv 9 15]
  (.cond (t 9)
  (rn [mv 16 0, od 17 (.bin .eql (t 16) (.const (.str [116, 114, 117, 101]))), ca 18 304 369 [(t 17)], fa 19 2 4,
 ow (.store true 4 (t 19) (t 18))])
  (sr [mv 21 0, od 22 (.indexStr (t 21) (ic 0)), od 23 (.bin .eql (t 22) (.const (.int .u8 34))), mv 20 23]
  (.cond (t 20)
  (rn [mv 24 0, mv 25 0, od 26 (.lenStr (t 25)), od 27 (.bin .sub (t 26) (ic 1)),
 od 28 (.sliceStr (t 24) (some (ic 1)) (some (t 27))), ca 29 480 336 [(t 28)], fa 30 2 4, ow (.store true 4 (t 30) (t 29))])
  (sr [mv 32 0, od 33 (.indexStr (t 32) (ic 0)), ca 34 560 439 [(t 33)], od 35 (.bin .eql (t 34) (.const (.int .u8 48))),
 mv 36 35, og 37 (.move (t 0)) 36 false, og 38 (.indexStr (t 37) (ic 0)) 36 false, og 39 (.bin .eql (t 38) (.const (.int .u8 45))) 36 false,
 og 40 (.move (t 39)) 36 false, og 41 (.move (t 0)) 40 true, og 42 (.lenStr (t 41)) 40 true, og 43 (.bin .gtr (t 42) (ic 1)) 40 true,
 og 44 (.pick (t 40) (t 43) (.const (.bool false))) 36 false, od 45 (.pick (t 36) (.const (.bool true)) (t 44)), mv 31 45]
  (.cond (t 31)
  (sr [mc 5 0]
  (.seq (sr [mc 6 0]
  (.block 1 (.loop f441_l0)))
  (.seq (sr [mv 64 0, od 65 (.indexStr (t 64) (ic 0)), od 66 (.bin .eql (t 65) (.const (.int .u8 45)))]
  (.cond (t 66)
  (rn [mv 67 5, od 68 (.un .neg (t 67)), mv 5 68])
  .skip))
  (rn [mv 69 5, ca 70 1136 335 [(t 69)], fa 71 2 4, ow (.store true 4 (t 71) (t 70))]))))
  (sr [od 8 (.build [i0, i0, i0, i0, .bool false, .str [], .lit 7 []] []), ow (.store true 7 (t 2) (t 8)), od 3 (.move (.const (.bool false)))]
  .ret))))))))
  (sr [la 72 7 4, ow (.store true 7 (t 2) (t 72)), od 3 (.move (.const (.bool true)))]
  .ret))))
def f441 : AFunc := ⟨1, 73, [], [.cell 2 true 7, .tmp 3], f441_b⟩
def envTab : List (Nat × AFunc) := [(309, f309), (311, f311), (312, f312), (313, f313), (314, f314), (315, f315), (316, f316), (317, f317), (318, f318), (319, f319), (320, f320), (321, f321), (322, f322), (323, f323), (331, f331), (85, f85), (332, f332), (333, f333), (334, f334), (93, f93), (335, f335), (336, f336), (337, f337), (338, f338), (339, f339), (340, f340), (341, f341), (342, f342), (343, f343), (344, f344), (345, f345), (346, f346), (347, f347), (348, f348), (349, f349), (350, f350), (351, f351), (352, f352), (353, f353), (366, f366), (367, f367), (368, f368), (369, f369), (370, f370), (371, f371), (372, f372), (374, f374), (375, f375), (376, f376), (377, f377), (378, f378), (379, f379), (380, f380), (381, f381), (382, f382), (383, f383), (384, f384), (385, f385), (386, f386), (387, f387), (388, f388), (389, f389), (390, f390), (391, f391), (392, f392), (393, f393), (394, f394), (395, f395), (400, f400), (401, f401), (402, f402), (259, f259), (403, f403), (404, f404), (405, f405), (406, f406), (408, f408), (409, f409), (410, f410), (411, f411), (412, f412), (413, f413), (414, f414), (415, f415), (416, f416), (417, f417), (418, f418), (422, f422), (423, f423), (280, f280), (424, f424), (425, f425), (426, f426), (427, f427), (428, f428), (429, f429), (430, f430), (431, f431), (432, f432), (433, f433), (434, f434), (435, f435), (436, f436), (437, f437), (438, f438), (439, f439), (440, f440), (441, f441)]
def envExt : List (Nat × (List V → Option Res)) := [(373, cloneV 4 2872193639704), (407, cloneV 1 8278675785407)]
def E : Env := ⟨fnOf envTab, extOf envExt⟩
theorem E_309 : E.fn 309 = some f309 := rfl
theorem X_309 (as : List V) : E.ext 309 as = none := rfl
theorem E_311 : E.fn 311 = some f311 := rfl
theorem X_311 (as : List V) : E.ext 311 as = none := rfl
theorem E_312 : E.fn 312 = some f312 := rfl
theorem X_312 (as : List V) : E.ext 312 as = none := rfl
theorem E_313 : E.fn 313 = some f313 := rfl
theorem X_313 (as : List V) : E.ext 313 as = none := rfl
theorem E_314 : E.fn 314 = some f314 := rfl
theorem X_314 (as : List V) : E.ext 314 as = none := rfl
theorem E_315 : E.fn 315 = some f315 := rfl
theorem X_315 (as : List V) : E.ext 315 as = none := rfl
theorem E_316 : E.fn 316 = some f316 := rfl
theorem X_316 (as : List V) : E.ext 316 as = none := rfl
theorem E_317 : E.fn 317 = some f317 := rfl
theorem X_317 (as : List V) : E.ext 317 as = none := rfl
theorem E_318 : E.fn 318 = some f318 := rfl
theorem X_318 (as : List V) : E.ext 318 as = none := rfl
theorem E_319 : E.fn 319 = some f319 := rfl
theorem X_319 (as : List V) : E.ext 319 as = none := rfl
theorem E_320 : E.fn 320 = some f320 := rfl
theorem X_320 (as : List V) : E.ext 320 as = none := rfl
theorem E_321 : E.fn 321 = some f321 := rfl
theorem X_321 (as : List V) : E.ext 321 as = none := rfl
theorem E_322 : E.fn 322 = some f322 := rfl
theorem X_322 (as : List V) : E.ext 322 as = none := rfl
theorem E_323 : E.fn 323 = some f323 := rfl
theorem X_323 (as : List V) : E.ext 323 as = none := rfl
theorem E_85 : E.fn 85 = some f85 := rfl
theorem X_85 (as : List V) : E.ext 85 as = none := rfl
theorem E_332 : E.fn 332 = some f332 := rfl
theorem X_332 (as : List V) : E.ext 332 as = none := rfl
theorem E_333 : E.fn 333 = some f333 := rfl
theorem X_333 (as : List V) : E.ext 333 as = none := rfl
theorem E_334 : E.fn 334 = some f334 := rfl
theorem X_334 (as : List V) : E.ext 334 as = none := rfl
theorem E_93 : E.fn 93 = some f93 := rfl
theorem X_93 (as : List V) : E.ext 93 as = none := rfl
theorem E_335 : E.fn 335 = some f335 := rfl
theorem X_335 (as : List V) : E.ext 335 as = none := rfl
theorem E_336 : E.fn 336 = some f336 := rfl
theorem X_336 (as : List V) : E.ext 336 as = none := rfl
theorem E_337 : E.fn 337 = some f337 := rfl
theorem X_337 (as : List V) : E.ext 337 as = none := rfl
theorem E_338 : E.fn 338 = some f338 := rfl
theorem X_338 (as : List V) : E.ext 338 as = none := rfl
theorem E_339 : E.fn 339 = some f339 := rfl
theorem X_339 (as : List V) : E.ext 339 as = none := rfl
theorem E_340 : E.fn 340 = some f340 := rfl
theorem X_340 (as : List V) : E.ext 340 as = none := rfl
theorem E_341 : E.fn 341 = some f341 := rfl
theorem X_341 (as : List V) : E.ext 341 as = none := rfl
theorem E_342 : E.fn 342 = some f342 := rfl
theorem X_342 (as : List V) : E.ext 342 as = none := rfl
theorem E_343 : E.fn 343 = some f343 := rfl
theorem X_343 (as : List V) : E.ext 343 as = none := rfl
theorem E_344 : E.fn 344 = some f344 := rfl
theorem X_344 (as : List V) : E.ext 344 as = none := rfl
theorem E_345 : E.fn 345 = some f345 := rfl
theorem X_345 (as : List V) : E.ext 345 as = none := rfl
theorem E_346 : E.fn 346 = some f346 := rfl
theorem X_346 (as : List V) : E.ext 346 as = none := rfl
theorem E_347 : E.fn 347 = some f347 := rfl
theorem X_347 (as : List V) : E.ext 347 as = none := rfl
theorem E_348 : E.fn 348 = some f348 := rfl
theorem X_348 (as : List V) : E.ext 348 as = none := rfl
theorem E_349 : E.fn 349 = some f349 := rfl
theorem X_349 (as : List V) : E.ext 349 as = none := rfl
theorem E_350 : E.fn 350 = some f350 := rfl
theorem X_350 (as : List V) : E.ext 350 as = none := rfl
theorem E_351 : E.fn 351 = some f351 := rfl
theorem X_351 (as : List V) : E.ext 351 as = none := rfl
theorem E_352 : E.fn 352 = some f352 := rfl
theorem X_352 (as : List V) : E.ext 352 as = none := rfl
theorem E_353 : E.fn 353 = some f353 := rfl
theorem X_353 (as : List V) : E.ext 353 as = none := rfl
theorem E_367 : E.fn 367 = some f367 := rfl
theorem X_367 (as : List V) : E.ext 367 as = none := rfl
theorem E_368 : E.fn 368 = some f368 := rfl
theorem X_368 (as : List V) : E.ext 368 as = none := rfl
theorem E_369 : E.fn 369 = some f369 := rfl
theorem X_369 (as : List V) : E.ext 369 as = none := rfl
theorem E_370 : E.fn 370 = some f370 := rfl
theorem X_370 (as : List V) : E.ext 370 as = none := rfl
theorem E_371 : E.fn 371 = some f371 := rfl
theorem X_371 (as : List V) : E.ext 371 as = none := rfl
theorem E_372 : E.fn 372 = some f372 := rfl
theorem X_372 (as : List V) : E.ext 372 as = none := rfl
theorem E_374 : E.fn 374 = some f374 := rfl
theorem X_374 (as : List V) : E.ext 374 as = none := rfl
theorem E_375 : E.fn 375 = some f375 := rfl
theorem X_375 (as : List V) : E.ext 375 as = none := rfl
theorem E_376 : E.fn 376 = some f376 := rfl
theorem X_376 (as : List V) : E.ext 376 as = none := rfl
theorem E_377 : E.fn 377 = some f377 := rfl
theorem X_377 (as : List V) : E.ext 377 as = none := rfl
theorem E_378 : E.fn 378 = some f378 := rfl
theorem X_378 (as : List V) : E.ext 378 as = none := rfl
theorem E_379 : E.fn 379 = some f379 := rfl
theorem X_379 (as : List V) : E.ext 379 as = none := rfl
theorem E_380 : E.fn 380 = some f380 := rfl
theorem X_380 (as : List V) : E.ext 380 as = none := rfl
theorem E_381 : E.fn 381 = some f381 := rfl
theorem X_381 (as : List V) : E.ext 381 as = none := rfl
theorem E_382 : E.fn 382 = some f382 := rfl
theorem X_382 (as : List V) : E.ext 382 as = none := rfl
theorem E_383 : E.fn 383 = some f383 := rfl
theorem X_383 (as : List V) : E.ext 383 as = none := rfl
theorem E_384 : E.fn 384 = some f384 := rfl
theorem X_384 (as : List V) : E.ext 384 as = none := rfl
theorem E_385 : E.fn 385 = some f385 := rfl
theorem X_385 (as : List V) : E.ext 385 as = none := rfl
theorem E_386 : E.fn 386 = some f386 := rfl
theorem X_386 (as : List V) : E.ext 386 as = none := rfl
theorem E_387 : E.fn 387 = some f387 := rfl
theorem X_387 (as : List V) : E.ext 387 as = none := rfl
theorem E_388 : E.fn 388 = some f388 := rfl
theorem X_388 (as : List V) : E.ext 388 as = none := rfl
theorem E_389 : E.fn 389 = some f389 := rfl
theorem X_389 (as : List V) : E.ext 389 as = none := rfl
theorem E_390 : E.fn 390 = some f390 := rfl
theorem X_390 (as : List V) : E.ext 390 as = none := rfl
theorem E_391 : E.fn 391 = some f391 := rfl
theorem X_391 (as : List V) : E.ext 391 as = none := rfl
theorem E_392 : E.fn 392 = some f392 := rfl
theorem X_392 (as : List V) : E.ext 392 as = none := rfl
theorem E_393 : E.fn 393 = some f393 := rfl
theorem X_393 (as : List V) : E.ext 393 as = none := rfl
theorem E_394 : E.fn 394 = some f394 := rfl
theorem X_394 (as : List V) : E.ext 394 as = none := rfl
theorem E_395 : E.fn 395 = some f395 := rfl
theorem X_395 (as : List V) : E.ext 395 as = none := rfl
theorem E_401 : E.fn 401 = some f401 := rfl
theorem X_401 (as : List V) : E.ext 401 as = none := rfl
theorem E_402 : E.fn 402 = some f402 := rfl
theorem X_402 (as : List V) : E.ext 402 as = none := rfl
theorem E_259 : E.fn 259 = some f259 := rfl
theorem X_259 (as : List V) : E.ext 259 as = none := rfl
theorem E_403 : E.fn 403 = some f403 := rfl
theorem X_403 (as : List V) : E.ext 403 as = none := rfl
theorem E_404 : E.fn 404 = some f404 := rfl
theorem X_404 (as : List V) : E.ext 404 as = none := rfl
theorem E_405 : E.fn 405 = some f405 := rfl
theorem X_405 (as : List V) : E.ext 405 as = none := rfl
theorem E_406 : E.fn 406 = some f406 := rfl
theorem X_406 (as : List V) : E.ext 406 as = none := rfl
theorem E_408 : E.fn 408 = some f408 := rfl
theorem X_408 (as : List V) : E.ext 408 as = none := rfl
theorem E_409 : E.fn 409 = some f409 := rfl
theorem X_409 (as : List V) : E.ext 409 as = none := rfl
theorem E_410 : E.fn 410 = some f410 := rfl
theorem X_410 (as : List V) : E.ext 410 as = none := rfl
theorem E_411 : E.fn 411 = some f411 := rfl
theorem X_411 (as : List V) : E.ext 411 as = none := rfl
theorem E_412 : E.fn 412 = some f412 := rfl
theorem X_412 (as : List V) : E.ext 412 as = none := rfl
theorem E_413 : E.fn 413 = some f413 := rfl
theorem X_413 (as : List V) : E.ext 413 as = none := rfl
theorem E_414 : E.fn 414 = some f414 := rfl
theorem X_414 (as : List V) : E.ext 414 as = none := rfl
theorem E_415 : E.fn 415 = some f415 := rfl
theorem X_415 (as : List V) : E.ext 415 as = none := rfl
theorem E_416 : E.fn 416 = some f416 := rfl
theorem X_416 (as : List V) : E.ext 416 as = none := rfl
theorem E_417 : E.fn 417 = some f417 := rfl
theorem X_417 (as : List V) : E.ext 417 as = none := rfl
theorem E_418 : E.fn 418 = some f418 := rfl
theorem X_418 (as : List V) : E.ext 418 as = none := rfl
theorem E_280 : E.fn 280 = some f280 := rfl
theorem X_280 (as : List V) : E.ext 280 as = none := rfl
theorem E_424 : E.fn 424 = some f424 := rfl
theorem X_424 (as : List V) : E.ext 424 as = none := rfl
theorem E_425 : E.fn 425 = some f425 := rfl
theorem X_425 (as : List V) : E.ext 425 as = none := rfl
theorem E_426 : E.fn 426 = some f426 := rfl
theorem X_426 (as : List V) : E.ext 426 as = none := rfl
theorem E_427 : E.fn 427 = some f427 := rfl
theorem X_427 (as : List V) : E.ext 427 as = none := rfl
theorem E_428 : E.fn 428 = some f428 := rfl
theorem X_428 (as : List V) : E.ext 428 as = none := rfl
theorem E_429 : E.fn 429 = some f429 := rfl
theorem X_429 (as : List V) : E.ext 429 as = none := rfl
theorem E_430 : E.fn 430 = some f430 := rfl
theorem X_430 (as : List V) : E.ext 430 as = none := rfl
theorem E_437 : E.fn 437 = some f437 := rfl
theorem X_437 (as : List V) : E.ext 437 as = none := rfl
theorem E_438 : E.fn 438 = some f438 := rfl
theorem X_438 (as : List V) : E.ext 438 as = none := rfl
theorem X_373 (as : List V) : E.ext 373 as = cloneV 4 2872193639704 as := rfl
theorem X_407 (as : List V) : E.ext 407 as = cloneV 1 8278675785407 as := rfl
end Go.AM
