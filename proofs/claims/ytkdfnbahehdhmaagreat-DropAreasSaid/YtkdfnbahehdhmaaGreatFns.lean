/-
  Texts of the proof, joined by program: AmFns. Own work.
-/
import Derived.Test.YtkdfnbahehdhmaaGreatBase
set_option linter.unusedSimpArgs false
set_option linter.unusedVariables false
namespace Go.AM
namespace Fx
abbrev t (n:Nat):aI:= .tmp n
abbrev i0:V:= .int .i64 0
abbrev mv (d n:Nat):aX:=od d (.move (t n))
abbrev mc (d:Nat) (n:Int):aX:=od d (.move (ic n))
abbrev ld (d n:Nat):aX:=od d (.load false 1 (t n))
abbrev la (d k n:Nat):aX:=od d (.load true k (t n))
abbrev fa (d k n:Nat):aX:=od d (.fieldAddr k (t n))
abbrev eq (d n:Nat) (k:Int):aX:=od d (.bin .eql (t n) (ic k))
abbrev ad (d n:Nat) (k:Int):aX:=od d (.bin .add (t n) (ic k))
abbrev ls (d n m:Nat):aX:=od d (.bin .lss (t n) (t m))
abbrev xt (d n k:Nat):aX:=od d (.extract (t n) k)
abbrev ln (d n:Nat):aX:=od d (.len (t n))
abbrev ca (d r f:Nat) (as:List aI):aX:=od d (.call r false (fc f) as)
abbrev og (d:Nat) (x:oS) (g:Nat) (b:Bool):aX:=⟨some d,x,some (g,b),[]⟩
abbrev rn (l:List aX):an:= .region l
abbrev sr (l:List aX) (x:an):an:= .seq (.region l) x
end Fx
open Fx
abbrev E1:an:=
  (sr [ls 54 53 52]
  (.seq (.cond (t 54)
  .skip
  (.exit 0))
  (.seq (.block 1 (sr [od 55 (.indexAddr 4 (t 51) (t 53)),la 56 4 55,od 14 (.new 240 4 (.const (.agg [i0,.lit 2 [],i0,i0]))),ow (.store true 4 (t 14) (t 56))]
  (sr [fa 57 0 14,ld 58 57,od 59 (.aW 2 1 (t 8) (ic 0)),ld 60 59,
 od 61 (.bin .eql (t 58) (t 60))]
  (.cond (t 61)
  (.drawn [fa 62 2 14,op 63 (.load false 1 (t 62)) [0],fa 64 3 14,op 65 (.load false 1 (t 64)) [2],
 op 11 (.move (t 63)) [1,0,1],op 12 (.move (t 65)) ([3,4]++rg 5)])
  .skip))))
  (rn [ad 66 53 1,mv 53 66]))))
abbrev E2:an:=
  (sr [ls 80 79 78]
  (.seq (.cond (t 80)
  .skip
  (.exit 2))
  (.seq (.block 3 (sr [od 81 (.indexAddr 5 (t 77) (t 79)),la 82 5 81,od 17 (.new 288 5 (.const (.agg [i0,.str [],.str [],i0,i0]))),ow (.store true 5 (t 17) (t 82))]
  (sr [mc 18 0]
  (.seq (sr [fa 83 0 17,ld 84 83]
  (.block 4 (sr [mv 86 11,od 87 (.bin .eql (t 84) (t 86)),mv 85 87]
  (.cond (t 85)
  (rn [mv 88 15,mv 18 88])
  (sr [mv 90 12,od 91 (.bin .eql (t 84) (t 90)),mv 89 91]
  (.cond (t 89)
  (rn [mv 92 15,od 93 (.un .neg (t 92)),mv 18 93])
  .skip))))))
  (.seq (.drawn [fa 94 0 9,op 95 (.load false 1 (t 94)) [0],fa 96 0 17,op 97 (.load false 1 (t 96)) [2],
 op 98 (.call 1584 false (fc 531) [(t 95),(t 97)]) [1,3],fa 99 0 6,op 100 (.load false 1 (t 99)) [5],fa 101 0 17,
 op 102 (.load false 1 (t 101)) [7],op 103 (.call 1664 false (fc 531) [(t 100),(t 102)]) [6,8,4],op 104 (.bin .sub (t 98) (t 103)) [4,9],mv 105 18,
 op 106 (.bin .neq (t 104) (t 105)) [10,11]])
  (.cond (t 106)
  (sr [od 4 (.move (.const (.bool false)))]
  .ret)
  .skip))))))
  (rn [ad 107 79 1,mv 79 107]))))
def HY:an:=
  (sr [od 4 (.move (.const (.bool false)))]
  (sr [ca 21 352 521 [],mv 5 21]
  (sr [mv 22 0,ca 23 384 522 [(t 22)],od 6 (.new 112 4 (.const (.agg [.lit 4 [],.lit 5 [],.lit 8 [],.lit 7 []]))),ow (.store true 4 (t 6) (t 23))]
  (sr [la 24 4 6,ca 25 416 523 [(t 24)],od 7 (.nk 129 (t 25))]
  (.seq (sr [mv 26 7,ln 27 26,eq 28 27 0]
  (.cond (t 28)
  (sr [mv 29 5,mv 4 29]
  .ret)
  .skip))
  (sr [mv 30 7,mv 31 1,od 32 (.c8 .i64 (t 31)),mv 33 7,
 ln 34 33,od 35 (.bin .rem (t 32) (t 34)),od 36 (.indexAddr 2 (t 30) (t 35)),la 37 2 36,
 od 8 (.new 144 2 (.const (.agg [i0,i0]))),ow (.store true 2 (t 8) (t 37))]
  (sr [la 39 4 6,od 40 (.aW 2 1 (t 8) (ic 0)),ld 41 40,od 42 (.aW 2 1 (t 8) (ic 1)),
 ld 43 42,ca 44 720 524 [(t 39),(t 41),(t 43)],mv 38 44,xt 45 38 0,
 xt 46 38 1,od 9 (.new 160 4 (.const (.agg [.lit 4 [],.lit 5 [],.lit 8 [],.lit 7 []]))),ow (.store true 4 (t 9) (t 45)),mv 10 46]
  (.seq (sr [mv 47 10,od 48 (.bin .neq (t 47) (ic 0))]
  (.cond (t 48)
  (sr [mv 49 5,mv 4 49]
  .ret)
  .skip))
  (sr [mc 11 0,mc 12 0]
  (.seq (sr [fa 50 0 6,ld 51 50,ln 52 51,mc 53 0]
  (.block 0 (.loop E1)))
  (.seq (.drawn [fa 67 0 9,op 68 (.load false 1 (t 67)) [0],mv 69 11,op 70 (.call 1136 false (fc 531) [(t 68),(t 69)]) [1,2],
 fa 71 0 6,op 72 (.load false 1 (t 71)) [4],mv 73 11,op 74 (.call 1200 false (fc 531) [(t 72),(t 73)]) [5,6,3],
 op 75 (.bin .sub (t 70) (t 74)) [3,7],op 15 (.move (t 75)) ([8,7]++rg 9)])
  (.seq (sr [fa 76 1 6,ld 77 76,ln 78 77,mc 79 0]
  (.block 2 (.loop E2)))
  (sr [la 108 4 6,od 109 (.aW 2 1 (t 8) (ic 0)),ld 110 109,od 111 (.aW 2 1 (t 8) (ic 1)),
 ld 112 111,ca 113 1824 527 [(t 108),(t 110),(t 112)],mv 19 113]
  (sr [mv 114 15,mv 115 15,od 116 (.un .neg (t 115)),od 117 (.max [(t 114),(t 116)]),
 mv 20 117]
  (sr [mv 118 5,mv 119 118,og 120 (.move (t 19)) 119 true,og 121 (.move (t 19)) 119 true,
 og 122 (.bin .mul (t 120) (t 121)) 119 true,og 123 (.move (t 20)) 119 true,og 124 (.bin .leq (t 122) (t 123)) 119 true,od 125 (.pick (t 119) (t 124) (.const (.bool false))),
 mv 126 125,og 127 (.move (t 20)) 126 true,og 128 (.move (t 19)) 126 true,og 129 (.bin .add (t 128) (ic 1)) 126 true,
 og 130 (.move (t 19)) 126 true,og 131 (.bin .add (t 130) (ic 1)) 126 true,og 132 (.bin .mul (t 129) (t 131)) 126 true,og 133 (.bin .lss (t 127) (t 132)) 126 true,
 od 134 (.pick (t 126) (t 133) (.const (.bool false))),mv 4 134]
  .ret)))))))))))))))
def HZ:aD:=⟨2,135,[],[.tmp 4],HY,none⟩
def H0:an:=
  (sr [od 0 (.move (.const (.bool false)))]
  (sr [ca 6 112 532 [],od 1 (.new 32 4 (.const (.agg [.lit 4 [],.lit 5 [],.lit 8 [],.lit 7 []]))),ow (.store true 4 (t 1) (t 6))]
  (sr [la 7 4 1,ca 8 144 526 [(t 7),(ic 13),(ic 1)],eq 9 8 0,mv 10 9,
 og 11 (.load true 4 (t 1)) 10 true,og 12 (.call 208 false (fc 526) [(t 11),(ic 13),(ic 2)]) 10 true,og 13 (.bin .eql (t 12) (ic 22)) 10 true,od 14 (.pick (t 10) (t 13) (.const (.bool false))),
 mv 15 14,og 16 (.load true 4 (t 1)) 15 true,og 17 (.call 288 false (fc 526) [(t 16),(ic 13),(ic 3)]) 15 true,og 18 (.bin .eql (t 17) (ic 1)) 15 true,
 od 19 (.pick (t 15) (t 18) (.const (.bool false))),mv 20 19,og 21 (.load true 4 (t 1)) 20 true,og 22 (.call 368 false (fc 526) [(t 21),(ic 11),(ic 1)]) 20 true,
 og 23 (.bin .eql (t 22) (ic 25)) 20 true,od 24 (.pick (t 20) (t 23) (.const (.bool false))),mv 25 24,og 26 (.load true 4 (t 1)) 25 true,
 og 27 (.call 448 false (fc 526) [(t 26),(ic 14),(ic 1)]) 25 true,og 28 (.bin .eql (t 27) (ic 5)) 25 true,od 29 (.pick (t 25) (t 28) (.const (.bool false))),mv 2 29]
  (sr [la 31 4 1,ca 32 528 524 [(t 31),(ic 13),(ic 1)],mv 30 32,xt 33 30 0,
 xt 34 30 1,od 3 (.new 64 4 (.const (.agg [.lit 4 [],.lit 5 [],.lit 8 [],.lit 7 []]))),ow (.store true 4 (t 3) (t 33)),mv 4 34]
  (.seq (.seq (.drawn [mv 35 4,op 36 (.bin .neq (t 35) (ic 0)) [0],op 37 (.move (t 36)) [1],⟨some 38,.fieldAddr 0 (t 3),some (37,false),[2]⟩,
 ⟨some 39,.load false 1 (t 38),some (37,false),[3,2]⟩,⟨some 40,.len (t 39),some (37,false),[4,2]⟩,⟨some 41,.bin .neq (t 40) (ic 3),some (37,false),[5,2]⟩,op 42 (.pick (t 37) (.const (.bool true)) (t 41)) [2,6],
 op 43 (.move (t 42)) [7,2],⟨some 44,.fieldAddr 0 (t 3),some (43,false),[8]⟩,⟨some 45,.load false 1 (t 44),some (43,false),[9,8]⟩,⟨some 46,.indexAddr 4 (t 45) (ic 2),some (43,false),[10,8]⟩,
 ⟨some 47,.fieldAddr 1 (t 46),some (43,false),[11,8]⟩,⟨some 48,.load false 1 (t 47),some (43,false),[12,8]⟩,⟨some 49,.buildSlice 800 1 (i0) 6 [(0,(ic 0)),(1,(ic 0)),(2,(ic 20)),(3,(ic 14)),(4,(ic 20)),(5,(ic 40))],some (43,false),[8]⟩,⟨some 50,.call 816 false (fc 533) [(t 49)],some (43,false),[14,8,8]⟩,
 ⟨some 51,.call 832 false (fc 165) [(t 48),(t 50)],some (43,false),[13,15,15,8]⟩,⟨some 52,.un .not (t 51),some (43,false),[16,8]⟩,op 53 (.pick (t 43) (.const (.bool true)) (t 52)) [8,17]])
  (.cond (t 53)
  (sr [od 0 (.move (.const (.bool false)))]
  .ret)
  .skip))
  (sr [la 54 4 1,ca 55 896 529 [(t 54),(ic 1)],od 5 (.nk 97 (t 55))]
  (sr [mv 56 2,mv 57 56,og 58 (.load true 4 (t 1)) 57 true,og 59 (.call 960 false (fc 527) [(t 58),(ic 13),(ic 1)]) 57 true,
 og 60 (.bin .eql (t 59) (ic 10)) 57 true,od 61 (.pick (t 57) (t 60) (.const (.bool false))),mv 62 61,og 63 (.load true 4 (t 1)) 62 true,
 og 64 (.call 1040 false (fc 527) [(t 63),(ic 13),(ic 0)]) 62 true,og 65 (.bin .eql (t 64) (ic 0)) 62 true,od 66 (.pick (t 62) (t 65) (.const (.bool false))),mv 67 66,
 og 68 (.move (t 5)) 67 true,og 69 (.len (t 68)) 67 true,og 70 (.bin .eql (t 69) (ic 1)) 67 true,od 71 (.pick (t 67) (t 70) (.const (.bool false))),
 mv 72 71,og 73 (.move (t 5)) 72 true,og 74 (.indexAddr 5 (t 73) (ic 0)) 72 true,og 75 (.load true 5 (t 74)) 72 true,
 og 76 (.build [i0,i0,i0,i0,i0] [(0,1,(ic 1)),(1,1,(ic 10)),(2,1,(ic 13)),(4,1,(ic 1))]) 72 true,og 77 (.yy false [1,1,1,1,1] (t 75) (t 76)) 72 true,od 78 (.pick (t 72) (t 77) (.const (.bool false))),mv 79 78,
 og 80 (.load true 4 (t 1)) 79 true,og 81 (.call 1312 false (fc 529) [(t 80),(ic 0)]) 79 true,og 82 (.len (t 81)) 79 true,og 83 (.bin .eql (t 82) (ic 0)) 79 true,
 od 84 (.pick (t 79) (t 83) (.const (.bool false))),mv 0 84]
  .ret)))))))
def H2:aD:=⟨0,85,[],[.tmp 0],H0,none⟩
def H3:an:=
  (sr [od 2 (.new 48 4 (.const (.agg [.lit 4 [],.lit 5 [],.lit 8 [],.lit 7 []])))]
  (sr [mv 3 0,mv 4 0,ln 5 4,od 6 (.min [(t 5),(ic 8)]),
 od 7 (.slice 1 (t 3) none (some (t 6)) none),ca 8 144 77 [(t 7)],ow (.store true 4 (t 2) (t 8))]
  .ret))
def H4:aD:=⟨1,9,[],[.cell 2 true 4],H3,none⟩
abbrev E3:an:=
  (.seq (sr [mv 14 6,ad 15 14 1,fa 16 1 5,ld 17 16,
 ln 18 17,ls 19 15 18]
  (.cond (t 19)
  .skip
  (.exit 2)))
  (.seq (.block 3 (rn [mv 22 3,fa 23 0 5,ld 24 23,mv 25 6,
 od 26 (.build [i0,i0] [(0,1,(t 24)),(1,1,(t 25))]),od 27 (.buildSlice 448 2 (.agg [i0,i0]) 1 [(0,(t 26))]),od 28 (.append 65 2 8278675785407 (t 22) (t 27)),od 3 (.nk 65 (t 28))]))
  (rn [mv 20 6,ad 21 20 1,mv 6 21])))
abbrev E4:an:=
 (sr [ls 11 10 9]
 (.seq (.cond (t 11)
 .skip
 (.exit 0))
 (.seq (.block 1 (sr [od 12 (.indexAddr 4 (t 8) (t 10)),la 13 4 12,od 5 (.new 96 4 (.const (.agg [i0,.lit 2 [],i0,i0]))),ow (.store true 4 (t 5) (t 13))]
 (sr [mc 6 1]
 (.block 2 (.loop E3)))))
 (rn [ad 29 10 1,mv 10 29]))))
def H5:an:=
 (sr [od 1 (.new 32 4 (t 0)),od 2 (.b7 49 2)]
 (sr [od 3 (.b7 65 2)]
 (.seq (sr [fa 7 0 1,ld 8 7,ln 9 8,mc 10 0]
 (.block 0 (.loop E4)))
 (sr [mv 30 3,mv 2 30]
 .ret))))
def H6:aD:=⟨1,31,[],[.tmp 2],H5,none⟩
abbrev E5:an:=
  (sr [ls 46 45 44]
  (.seq (.cond (t 46)
  .skip
  (.exit 0))
  (.seq (.block 1 (sr [mv 47 45,mv 12 47]
  (.drawn [fa 48 0 11,op 49 (.load false 1 (t 48)) [0],mv 50 12,fa 51 0 11,
 op 52 (.load false 1 (t 51)) [3],mv 53 12,op 54 (.indexAddr 4 (t 52) (t 53)) [4,5],op 55 (.fieldAddr 1 (t 54)) [6],
 op 56 (.load false 1 (t 55)) [7],op 57 (.call 928 false (fc 32) [(t 56)]) [8],op 58 (.indexAddr 4 (t 49) (t 50)) ([1,2]++rg 10),op 59 (.fieldAddr 1 (t 58)) ([10]++rg 10),
 ⟨none,.store false 1 (t 59) (t 57),none,([11,9,9]++rg 10)⟩])))
  (rn [ad 60 45 1,mv 45 60]))))
abbrev E6:an:=
  (sr [ls 65 64 63]
  (.seq (.cond (t 65)
  .skip
  (.exit 2))
  (.seq (.block 3 (sr [mv 66 64,mv 13 66]
  (.drawn [fa 67 2 11,op 68 (.load false 1 (t 67)) [0],mv 69 13,fa 70 2 11,
 op 71 (.load false 1 (t 70)) [3],mv 72 13,op 73 (.indexAddr 8 (t 71) (t 72)) [4,5],op 74 (.fieldAddr 1 (t 73)) [6],
 op 75 (.load false 1 (t 74)) [7],op 76 (.call 1232 false (fc 32) [(t 75)]) [8],op 77 (.indexAddr 8 (t 68) (t 69)) ([1,2]++rg 10),op 78 (.fieldAddr 1 (t 77)) ([10]++rg 10),
 ⟨none,.store false 1 (t 78) (t 76),none,([11,9,9]++rg 10)⟩])))
  (rn [ad 79 64 1,mv 64 79]))))
def H7:an:=
  (sr [od 3 (.new 64 4 (t 0)),od 6 (.new 112 4 (.const (.agg [.lit 4 [],.lit 5 [],.lit 8 [],.lit 7 []]))),mc 7 0]
  (.seq (sr [la 14 4 3,mv 15 1,mv 16 2,ca 17 288 526 [(t 14),(t 15),(t 16)],
 mv 8 17]
  (sr [mv 18 8,od 19 (.bin .neq (t 18) (ic 0))]
  (.cond (t 19)
  (sr [od 20 (.build [.lit 4 [],.lit 5 [],.lit 8 [],.lit 7 []] []),mv 21 8,ow (.store true 4 (t 6) (t 20)),mv 7 21]
  .ret)
  .skip)))
  (sr [la 23 4 3,mv 24 1,mv 25 2,ca 26 432 534 [(t 23),(t 24),(t 25)],
 mv 22 26,xt 27 22 0,xt 28 22 1,od 9 (.new 160 8 (.const (.agg [i0,i0,i0,i0,i0,i0,i0,i0]))),
 ow (.store true 8 (t 9) (t 27)),mv 10 28]
  (.seq (.drawn [fa 29 0 3,op 30 (.load false 1 (t 29)) [0],op 31 (.call 512 true (fc 28) [(t 30)]) [1],fa 32 1 3,
 op 33 (.load false 1 (t 32)) [3],op 34 (.call 560 true (fc 29) [(t 33)]) [4,2],fa 35 2 3,op 36 (.load false 1 (t 35)) [6],
 op 37 (.call 608 true (fc 30) [(t 36)]) [7,5],fa 38 3 3,op 39 (.load false 1 (t 38)) [9],op 40 (.call 656 true (fc 31) [(t 39)]) [10,8],
 op 41 (.build [.lit 4 [],.lit 5 [],.lit 8 [],.lit 7 []] [(0,1,(t 31)),(1,1,(t 34)),(2,1,(t 37)),(3,1,(t 40))]) [2,5,8,11],od 11 (.new 192 4 (.const (.agg [.lit 4 [],.lit 5 [],.lit 8 [],.lit 7 []]))),⟨none,.store true 4 (t 11) (t 41),none,([13,12,11]++rg 14)⟩])
  (.seq (sr [fa 42 0 11,ld 43 42,ln 44 43,mc 45 0]
  (.block 0 (.loop E5)))
  (.seq (sr [fa 61 2 11,ld 62 61,ln 63 62,mc 64 0]
  (.block 2 (.loop E6)))
  (.seq (.drawn [fa 80 0 11,op 81 (.load false 1 (t 80)) [0],fa 82 0 9,op 83 (.load false 1 (t 82)) [2],
 la 84 8 9,la 85 4 3,op 86 (.call 1392 false (fc 535) [(t 84),(t 85)]) [4,5],op 87 (.indexAddr 4 (t 81) (t 83)) ([1,3]++rg 7),
 op 88 (.fieldAddr 1 (t 87)) ([7]++rg 7),⟨none,.store false 1 (t 88) (t 86),none,([8,6,6]++rg 7)⟩])
  (sr [la 89 4 11,ow (.store true 4 (t 6) (t 89)),mc 7 0]
  .ret))))))))
def H8:aD:=⟨3,90,[],[.cell 6 true 4,.tmp 7],H7,none⟩
def H9:an:=
  (sr [od 3 (.new 64 4 (t 0)),mc 6 0]
  (sr [la 10 4 3,mv 11 1,mv 12 2,ca 13 224 534 [(t 10),(t 11),(t 12)],
 mv 9 13,xt 14 9 0,xt 15 9 1,od 7 (.new 128 8 (.const (.agg [i0,i0,i0,i0,i0,i0,i0,i0]))),
 ow (.store true 8 (t 7) (t 14)),mv 8 15]
  (.seq (.block 0 (sr [mv 17 8,od 18 (.bin .neq (t 17) (ic 0)),mv 16 18]
  (.cond (t 16)
  (sr [mv 19 8,mv 6 19]
  .ret)
  (.seq (.drawn [la 21 4 3,fa 22 0 3,op 23 (.load false 1 (t 22)) [1],fa 24 0 7,
 op 25 (.load false 1 (t 24)) [3],op 26 (.indexAddr 4 (t 23) (t 25)) [2,4],op 27 (.load true 4 (t 26)) [5],op 28 (.call 464 false (fc 540) [(t 21),(t 27)]) [0,6],
 op 29 (.bin .eql (t 28) (ic 0)) [7],op 20 (.move (t 29)) [8,7]])
  (.cond (t 20)
  (sr [mc 6 25]
  .ret)
  (sr [la 31 8 7,la 32 4 3,ca 33 544 535 [(t 31),(t 32)],ca 34 560 144 [(t 33)],
 od 35 (.bin .neq (t 34) (ic 0)),mv 30 35]
  (.cond (t 30)
  (sr [mc 6 11]
  .ret)
  (sr [la 37 8 7,la 38 4 3,ca 39 640 541 [(t 37),(t 38)],od 40 (.un .not (t 39)),
 mv 36 40]
  (.cond (t 36)
  (sr [mc 6 22]
  .ret)
  .skip)))))))))
  (sr [mc 6 0]
  .ret))))
def Ia:aD:=⟨3,41,[],[.tmp 6],H9,none⟩
def Ib:an:=
  (sr [od 3 (.new 64 4 (t 0)),mc 6 0]
  (sr [la 11 4 3,mv 12 1,mv 13 2,ca 14 240 534 [(t 11),(t 12),(t 13)],
 mv 10 14,xt 15 10 0,xt 16 10 1,od 7 (.new 128 8 (.const (.agg [i0,i0,i0,i0,i0,i0,i0,i0]))),
 ow (.store true 8 (t 7) (t 15)),mv 8 16]
  (.seq (sr [mv 17 8,od 18 (.bin .neq (t 17) (ic 0))]
  (.cond (t 18)
  (sr [mc 6 0]
  .ret)
  .skip))
  (.seq (.drawn [fa 19 4 7,op 20 (.load true 2 (t 19)) [0],fa 21 2 7,op 22 (.load true 2 (t 21)) [2],
 op 23 (.call 384 false (fc 37) [(t 20),(t 22)]) [1,3],fa 24 6 7,op 25 (.load true 2 (t 24)) [5],fa 26 2 7,
 op 27 (.load true 2 (t 26)) [7],op 28 (.call 464 false (fc 37) [(t 25),(t 27)]) [6,8,4],op 29 (.call 480 false (fc 219) [(t 23),(t 28)]) [4,9,9],op 9 (.move (t 29)) ([10,10]++rg 11)])
  (sr [mv 30 9,mv 31 9,od 32 (.un .neg (t 31)),od 33 (.max [(t 30),(t 32)]),
 ca 34 560 27 [(t 33)],mv 6 34]
  .ret)))))
def Ic:aD:=⟨3,35,[],[.tmp 6],Ib,none⟩
abbrev E7:an:=
  (.seq (sr [mv 37 8,ad 38 37 1,fa 39 1 7,ld 40 39,
 ln 41 40,ls 42 38 41]
  (.cond (t 42)
  .skip
  (.exit 2)))
  (.seq (.block 3 (sr [la 45 4 2,fa 46 0 7,ld 47 46,mv 48 8,
 ca 49 800 526 [(t 45),(t 47),(t 48)],eq 50 49 0]
  (.cond (t 50)
  (.drawn [mv 51 5,la 52 4 2,fa 53 0 7,op 54 (.load false 1 (t 53)) [2],
 mv 55 8,op 56 (.call 912 false (fc 527) [(t 52),(t 54),(t 55)]) [1,3,4],op 57 (.max [(ic 1),(t 56)]) [5],fa 58 0 7,
 op 59 (.load false 1 (t 58)) [7],mv 60 8,op 61 (.build [i0,i0,i0,i0,i0] [(0,1,(ic 1)),(1,1,(t 57)),(2,1,(t 59)),(4,1,(t 60))]) [6,8,9],op 62 (.buildSlice 1008 5 (.agg [i0,i0,i0,i0,i0]) 1 [(0,(t 61))]) [10],
 op 63 (.append 97 5 3432621667003 (t 51) (t 62)) [0,11,5],op 5 (.nk 97 (t 63)) ([12,12]++rg 13)])
  .skip)))
  (rn [mv 43 8,ad 44 43 1,mv 8 44])))
abbrev E8:an:=
  (sr [ls 16 15 14]
  (.seq (.cond (t 16)
  .skip
  (.exit 0))
  (.seq (.block 1 (sr [mv 17 15,od 18 (.indexAddr 4 (t 13) (t 15)),la 19 4 18,od 7 (.new 128 4 (.const (.agg [i0,.lit 2 [],i0,i0]))),
 mv 6 17,ow (.store true 4 (t 7) (t 19))]
  (.seq (sr [mv 20 1,od 21 (.bin .lss (t 20) (ic 1)),mv 22 21,og 23 (.load true 4 (t 2)) 22 false,
 og 24 (.fieldAddr 0 (t 7)) 22 false,og 25 (.load false 1 (t 24)) 22 false,og 26 (.call 432 false (fc 543) [(t 23),(t 25)]) 22 false,og 27 (.move (t 6)) 22 false,
 og 28 (.bin .neq (t 26) (t 27)) 22 false,od 29 (.pick (t 22) (.const (.bool true)) (t 28)),mv 30 29,og 31 (.load true 4 (t 2)) 30 false,
 og 32 (.load true 4 (t 7)) 30 false,og 33 (.call 544 false (fc 540) [(t 31),(t 32)]) 30 false,og 34 (.move (t 1)) 30 false,og 35 (.bin .neq (t 33) (t 34)) 30 false,
 od 36 (.pick (t 30) (.const (.bool true)) (t 35))]
  (.cond (t 36)
  (.exit 1)
  .skip))
  (sr [mc 8 1]
  (.block 2 (.loop E7))))))
  (rn [ad 64 15 1,mv 15 64]))))
abbrev E9:an:=
  (sr [ls 70 69 68]
  (.seq (.cond (t 70)
  .skip
  (.exit 4))
  (.seq (.block 5 (sr [od 71 (.indexAddr 5 (t 67) (t 69)),la 72 5 71,od 11 (.new 192 5 (.const (.agg [i0,i0,i0,i0,i0]))),ow (.store true 5 (t 11) (t 72))]
  (rn [mv 73 9,la 74 5 11,od 75 (.buildSlice 1216 5 (.agg [i0,i0,i0,i0,i0]) 1 [(0,(t 74))]),od 76 (.append 161 5 3432621667003 (t 73) (t 75)),
 od 9 (.nk 161 (t 76))])))
  (rn [ad 77 69 1,mv 69 77]))))
def Ie:an:=
 (sr [od 2 (.new 48 4 (t 0)),od 4 (.b7 81 5)]
 (sr [od 5 (.b7 97 5)]
 (.seq (sr [fa 12 0 2,ld 13 12,ln 14 13,mc 15 0]
 (.block 0 (.loop E8)))
 (sr [mv 65 5,ca 66 1072 544 [(t 65),(fc 545)]]
 (sr [od 9 (.b7 161 5)]
 (.seq (sr [mv 67 5,ln 68 67,mc 69 0]
 (.block 4 (.loop E9)))
 (sr [mv 78 9,mv 4 78]
 .ret)))))))
def M5:aD:=⟨2,79,[],[.tmp 4],Ie,none⟩
abbrev Fa:an:=
  (.seq (sr [mv 16 9,fa 17 1 7,ld 18 17,ln 19 18,
 ls 20 16 19]
  (.cond (t 20)
  .skip
  (.exit 2)))
  (.seq (.block 3 (.drawn [mv 23 8,fa 24 1 7,op 25 (.load false 1 (t 24)) [1],mv 26 9,
 op 27 (.bin .sub (t 26) (ic 1)) [3],op 28 (.indexAddr 2 (t 25) (t 27)) [2,4],op 29 (.load true 2 (t 28)) [5],fa 30 1 7,
 op 31 (.load false 1 (t 30)) [7],mv 32 9,op 33 (.indexAddr 2 (t 31) (t 32)) [8,9],op 34 (.load true 2 (t 33)) [10],
 op 35 (.call 576 false (fc 219) [(t 29),(t 34)]) [6,11],op 36 (.bin .add (t 23) (t 35)) [0,12],op 8 (.move (t 36)) ([13,12]++rg 14)]))
  (rn [mv 21 9,ad 22 21 1,mv 9 22])))
abbrev Fb:an:=
 (sr [ls 13 12 11]
 (.seq (.cond (t 13)
 .skip
 (.exit 0))
 (.seq (.block 1 (sr [od 14 (.indexAddr 4 (t 10) (t 12)),la 15 4 14,od 7 (.new 128 4 (.const (.agg [i0,.lit 2 [],i0,i0]))),ow (.store true 4 (t 7) (t 15))]
 (sr [mc 8 0]
 (.seq (sr [mc 9 1]
 (.block 2 (.loop Fa)))
 (.seq (sr [fa 37 2 7,ld 38 37,mv 39 1,od 40 (.bin .eql (t 38) (t 39))]
 (.cond (t 40)
 (rn [mv 41 5,mv 42 8,od 43 (.bin .add (t 41) (t 42)),mv 5 43])
 .skip))
 (sr [fa 44 3 7,ld 45 44,mv 46 1,od 47 (.bin .eql (t 45) (t 46))]
 (.cond (t 47)
 (rn [mv 48 5,mv 49 8,od 50 (.bin .sub (t 48) (t 49)),mv 5 50])
 .skip)))))))
 (rn [ad 51 12 1,mv 12 51]))))
def Ig:an:=
 (sr [mc 4 0]
 (sr [mc 5 0]
 (.seq (sr [mv 10 0,ln 11 10,mc 12 0]
 (.block 0 (.loop Fb)))
 (sr [mv 52 5,mv 4 52]
 .ret))))
def Ih:aD:=⟨2,53,[],[.tmp 4],Ig,none⟩
def Ii:an:=
  (sr [od 0 (.new 16 4 (.const (.agg [.lit 4 [],.lit 5 [],.lit 8 [],.lit 7 []])))]
  (sr [od 1 (.new 32 4 (.const (.agg [.lit 4 [],.lit 5 [],.lit 8 [],.lit 7 []])))]
  (sr [od 2 (.buildSlice 48 1 (i0) 8 [(0,(ic 0)),(1,(ic 0)),(2,(ic 40)),(3,(ic 0)),(4,(ic 40)),(5,(ic 40)),(6,(ic 20)),(7,(ic 40))]),ca 3 64 533 [(t 2)],od 4 (.build [i0,.lit 2 [],i0,i0] [(0,1,(ic 11)),(1,1,(t 3)),(2,1,(ic 2))]),od 5 (.buildSlice 96 1 (i0) 6 [(0,(ic 20)),(1,(ic 40)),(2,(ic 0)),(3,(ic 40)),(4,(ic 0)),(5,(ic 0))]),
 ca 6 112 533 [(t 5)],od 7 (.build [i0,.lit 2 [],i0,i0] [(0,1,(ic 12)),(1,1,(t 6)),(2,1,(ic 1))]),od 8 (.buildSlice 144 1 (i0) 8 [(0,(ic 0)),(1,(ic 0)),(2,(ic 10)),(3,(ic 12)),(4,(ic 20)),(5,(ic 14)),(6,(ic 20)),(7,(ic 40))]),ca 9 160 533 [(t 8)],
 od 10 (.build [i0,.lit 2 [],i0,i0] [(0,1,(ic 13)),(1,1,(t 9)),(2,1,(ic 1)),(3,1,(ic 2))]),od 11 (.buildSlice 192 4 (.agg [i0,.nils,i0,i0]) 3 [(0,(t 4)),(1,(t 7)),(2,(t 10))]),fa 12 0 1,ow (.store false 1 (t 12) (t 11))]
  (sr [od 13 (.build [i0,.str [],.str [],i0,i0] [(0,1,(ic 1)),(1,1,(.const (.str [97]))),(3,1,(ic 1)),(4,1,(ic 1))]),od 14 (.build [i0,.str [],.str [],i0,i0] [(0,1,(ic 2)),(1,1,(.const (.str [97]))),(3,1,(ic 1)),(4,1,(ic 1))]),od 15 (.buildSlice 256 5 (.agg [i0,.str [],.str [],i0,i0]) 2 [(0,(t 13)),(1,(t 14))]),fa 16 1 1,
 ow (.store false 1 (t 16) (t 15))]
  (sr [od 17 (.build [i0,i0] [(0,1,(ic 19)),(1,1,(ic 20))]),od 18 (.build [i0,i0,i0,.str [],.str [],i0,i0] [(0,1,(ic 21)),(1,2,(t 17)),(3,1,(.const (.str [97]))),(5,1,(ic 1)),(6,1,(ic 1))]),od 19 (.buildSlice 320 7 (.agg [i0,i0,i0,.str [],.str [],i0,i0]) 1 [(0,(t 18))]),fa 20 3 1,
 ow (.store false 1 (t 20) (t 19))]
  (sr [la 21 4 1,ow (.store true 4 (t 0) (t 21))]
  .ret))))))
def M6:aD:=⟨0,22,[],[.cell 0 true 4],Ii,none⟩
abbrev Fc:an:=
  (.seq (sr [mv 11 5,mv 12 0,ln 13 12,ls 14 11 13]
  (.cond (t 14)
  .skip
  (.exit 0)))
  (.seq (.block 1 (.seq (.drawn [mv 17 0,mv 18 5,op 19 (.indexAddr 2 (t 17) (t 18)) [0,1],op 20 (.load true 2 (t 19)) [2],
 mv 21 1,mv 22 5,op 23 (.indexAddr 2 (t 21) (t 22)) [4,5],op 24 (.load true 2 (t 23)) [6],
 op 25 (.yy true [1,1] (t 20) (t 24)) [3,7]])
  (.cond (t 25)
  (sr [od 4 (.move (.const (.bool false)))]
  .ret)
  .skip)))
  (rn [mv 15 5,ad 16 15 1,mv 5 16])))
def Ij:an:=
  (sr [od 4 (.move (.const (.bool false)))]
  (.seq (sr [mv 6 0,ln 7 6,mv 8 1,ln 9 8,
 od 10 (.bin .neq (t 7) (t 9))]
  (.cond (t 10)
  (sr [od 4 (.move (.const (.bool false)))]
  .ret)
  .skip))
  (.seq (sr [mc 5 0]
  (.block 0 (.loop Fc)))
  (sr [od 4 (.move (.const (.bool true)))]
  .ret))))
def f165:aD:=⟨2,26,[],[.tmp 4],Ij,none⟩
abbrev Fe:an:=
  (.seq (sr [mv 5 4,ad 6 5 1,mv 7 0,ln 8 7,
 ls 9 6 8]
  (.cond (t 9)
  .skip
  (.exit 0)))
  (.seq (.block 1 (.drawn [mv 12 3,mv 13 0,mv 14 4,op 15 (.indexAddr 1 (t 13) (t 14)) [1,2],
 op 16 (.load false 1 (t 15)) [3],mv 17 0,mv 18 4,op 19 (.bin .add (t 18) (ic 1)) [6],
 op 20 (.indexAddr 1 (t 17) (t 19)) [5,7],op 21 (.load false 1 (t 20)) [8],op 22 (.build [i0,i0] [(0,1,(t 16)),(1,1,(t 21))]) [4,9],op 23 (.buildSlice 384 2 (.agg [i0,i0]) 1 [(0,(t 22))]) [10],
 op 24 (.append 65 2 8278675785407 (t 12) (t 23)) [0,11],op 3 (.nk 65 (t 24)) ([12,12]++rg 13)]))
  (rn [mv 10 4,ad 11 10 2,mv 4 11])))
def Ik:an:=
 (sr [od 2 (.b7 49 2)]
 (sr [od 3 (.b7 65 2)]
 (.seq (sr [mc 4 0]
 (.block 0 (.loop Fe)))
 (sr [mv 25 3,mv 2 25]
 .ret))))
def M7:aD:=⟨1,26,[],[.tmp 2],Ik,none⟩
abbrev Il:an:=
  (.seq (sr [mv 22 5,fa 23 1 3,ld 24 23,ln 25 24,
 ls 26 22 25]
  (.cond (t 26)
  .skip
  (.exit 0)))
  (.seq (.block 1 (sr [fa 29 1 3,ld 30 29,mv 31 5,od 32 (.indexAddr 5 (t 30) (t 31)),
 mv 6 32]
  (sr [mv 33 6,od 34 (.buildSlice 560 1 (.str []) 3 [(0,(.const (.str [102,105,101,108,100]))),(1,(.const (.str [119,111,111,100]))),(2,(.const (.str [108,97,107,101])))]),mv 35 4,ca 36 592 85 [(t 35),(ic 3)],
 od 37 (.indexAddr 1 (t 34) (t 36)),ld 38 37,od 39 (.nilCheck (t 33)),fa 40 1 39,
 ow (.store false 1 (t 40) (t 38))]
  (sr [mv 41 6,od 42 (.buildSlice 688 1 (.str []) 6 [(0,(.const (.str []))),(1,(.const (.str []))),(2,(.const (.str []))),(3,(.const (.str [77,111,111,114]))),(4,(.const (.str [72,111,108,109]))),(5,(.const (.str [78,111,114,116,104,32,77,111,111,114])))]),mv 43 4,ca 44 720 85 [(t 43),(ic 6)],
 od 45 (.indexAddr 1 (t 42) (t 44)),ld 46 45,od 47 (.nilCheck (t 41)),fa 48 2 47,
 ow (.store false 1 (t 48) (t 46))]
  (sr [mv 49 6,mv 50 4,ca 51 832 85 [(t 50),(ic 60)],od 52 (.bin .add (ic 1) (t 51)),
 od 53 (.nilCheck (t 49)),fa 54 3 53,ow (.store false 1 (t 54) (t 52))]
  (rn [mv 55 6,mv 56 4,ca 57 928 85 [(t 56),(ic 4)],mv 58 4,
 ca 59 960 85 [(t 58),(ic 2)],od 60 (.bin .mul (t 57) (t 59)),od 61 (.bin .rem (t 60) (ic 3)),od 62 (.bin .add (ic 1) (t 61)),
 od 63 (.nilCheck (t 55)),fa 64 4 63,ow (.store false 1 (t 64) (t 62))]))))))
  (rn [mv 27 5,ad 28 27 1,mv 5 28])))
def M8:an:=
  (sr [od 2 (.new 48 4 (.const (.agg [.lit 4 [],.lit 5 [],.lit 8 [],.lit 7 []])))]
  (sr [od 3 (.new 64 4 (.const (.agg [.lit 4 [],.lit 5 [],.lit 8 [],.lit 7 []])))]
  (sr [mv 8 0,mv 9 0,ln 10 9,od 11 (.min [(t 10),(ic 3)]),
 od 12 (.slice 1 (t 8) none (some (t 11)) none),od 13 (.call 224 true (fc 83) [(t 12)]),mv 7 13,xt 14 7 0,
 xt 15 7 1,fa 16 0 3,ow (.store false 1 (t 16) (t 14)),fa 17 1 3,
 ow (.store false 1 (t 17) (t 15))]
  (sr [mv 18 0,ca 19 320 84 [(t 18),(ic 3)],od 20 (.build [.lit 1 [],i0] [(0,1,(t 19))]),od 21 (.new 352 2 (t 20)),
 mv 4 21]
  (.seq (sr [mc 5 0]
  (.block 0 (.loop Il)))
  (sr [mv 65 0,ca 66 1072 84 [(t 65),(ic 4)],od 67 (.call 1088 true (fc 86) [(t 66)]),fa 68 2 3,
 ow (.store false 1 (t 68) (t 67))]
  (.seq (.drawn [la 69 4 3,mv 70 0,op 71 (.call 1152 false (fc 84) [(t 70),(ic 5)]) [1],op 72 (.call 1168 true (fc 87) [(t 69),(t 71)]) [0,2,2],
 op 73 (.fieldAddr 3 (t 3)) [0,1,2,3],⟨none,.store false 1 (t 73) (t 72),none,[4,3,3,0,1,2,3]⟩])
  (sr [la 74 4 3,ow (.store true 4 (t 2) (t 74))]
  .ret))))))))
def f77:aD:=⟨1,75,[],[.cell 2 true 4],M8,none⟩
def M9:an:=
  (sr [mc 4 0]
  (sr [mv 5 0,mv 6 1,od 7 (.bin .rem (t 5) (t 6)),mv 8 1,
 od 9 (.bin .add (t 7) (t 8)),mv 10 1,od 11 (.bin .rem (t 9) (t 10)),mv 4 11]
  .ret))
def f93:aD:=⟨2,12,[],[.tmp 4],M9,none⟩
def Im:an:=
  (sr [od 3 (.new 64 4 (t 0)),od 6 (.new 112 8 (.const (.agg [i0,i0,i0,i0,i0,i0,i0,i0]))),mc 7 0]
  (sr [la 10 4 3,mv 11 1,ca 12 208 543 [(t 10),(t 11)],mv 8 12]
  (.seq (sr [mv 13 8,od 14 (.bin .lss (t 13) (ic 0))]
  (.cond (t 14)
  (sr [od 15 (.build [i0,i0,i0,i0,i0,i0,i0,i0] []),ow (.store true 8 (t 6) (t 15)),mc 7 5]
  .ret)
  .skip))
  (sr [fa 16 0 3,ld 17 16,mv 18 8,od 19 (.indexAddr 4 (t 17) (t 18)),
 fa 20 1 19,ld 21 20,mv 9 21]
  (.seq (sr [mv 22 2,od 23 (.bin .lss (t 22) (ic 1)),mv 24 23,og 25 (.move (t 2)) 24 false,
 og 26 (.move (t 9)) 24 false,og 27 (.len (t 26)) 24 false,og 28 (.bin .sub (t 27) (ic 2)) 24 false,og 29 (.bin .gtr (t 25) (t 28)) 24 false,
 od 30 (.pick (t 24) (.const (.bool true)) (t 29))]
  (.cond (t 30)
  (sr [od 31 (.build [i0,i0,i0,i0,i0,i0,i0,i0] []),ow (.store true 8 (t 6) (t 31)),mc 7 1]
  .ret)
  .skip))
  (.seq (.drawn [mv 32 8,mv 33 2,mv 34 9,mv 35 2,
 op 36 (.bin .sub (t 35) (ic 1)) [3],op 37 (.indexAddr 2 (t 34) (t 36)) [2,4],op 38 (.load true 2 (t 37)) [5],mv 39 9,
 mv 40 2,op 41 (.indexAddr 2 (t 39) (t 40)) [7,8],op 42 (.load true 2 (t 41)) [9],mv 43 9,
 mv 44 2,op 45 (.bin .add (t 44) (ic 1)) [12],op 46 (.indexAddr 2 (t 43) (t 45)) [11,13],op 47 (.load true 2 (t 46)) [14],
 op 48 (.build [i0,i0,i0,i0,i0,i0,i0,i0] [(0,1,(t 32)),(1,1,(t 33)),(2,2,(t 38)),(4,2,(t 42)),(6,2,(t 47))]) [0,1,6,10,15],⟨none,.store true 8 (t 6) (t 48),none,([16]++rg 17)⟩,op 7 (.move (ic 0)) ([17]++rg 18)])
  .ret))))))
def Io:aD:=⟨3,49,[],[.cell 6 true 8,.tmp 7],Im,none⟩
def Ip:an:=
  (sr [od 2 (.new 48 8 (t 0)),od 3 (.new 64 4 (t 1)),od 4 (.move (.const (.lit 2 [])))]
  (.seq (.drawn [fa 5 0 3,op 6 (.load false 1 (t 5)) [0],fa 7 0 2,op 8 (.load false 1 (t 7)) [2],
 op 9 (.indexAddr 4 (t 6) (t 8)) [1,3],op 10 (.fieldAddr 1 (t 9)) [4],op 11 (.load false 1 (t 10)) [5],op 12 (.call 208 true (fc 32) [(t 11)]) [6],
 fa 13 1 2,op 14 (.load false 1 (t 13)) [8],fa 15 1 2,op 16 (.load false 1 (t 15)) [10],
 op 17 (.bin .add (t 16) (ic 1)) [11],op 18 (.call 304 false (fc 547) [(t 12),(t 14),(t 17)]) [7,9,12,7],op 4 (.move (t 18)) ([13,13]++rg 14)])
  .ret))
def Iq:aD:=⟨2,19,[],[.tmp 4],Ip,none⟩
def Ir:an:=
  (sr [od 2 (.new 48 4 (t 0)),od 3 (.new 64 4 (t 1)),mc 4 0]
  (sr [od 7 (.fy 550 [(t 2)]),mv 5 7]
  (.seq (sr [mv 8 5,fa 9 2 3,ld 10 9,od 11 (.call 192 false (t 8) [(t 10)]),
 mv 6 11]
  (sr [mv 12 6,mv 13 5,fa 14 3 3,ld 15 14,
 od 16 (.call 272 false (t 13) [(t 15)]),od 17 (.bin .eql (t 12) (t 16))]
  (.cond (t 17)
  (sr [mv 18 6,mv 4 18]
  .ret)
  .skip)))
  (sr [mc 4 0]
  .ret))))
def Is:aD:=⟨2,19,[],[.tmp 4],Ir,none⟩
abbrev Ff:an:=
 (sr [mv 7 38]
 (rn [od 8 (.new 144 4 (.const (.agg [i0,i0,i0,i0]))),ow (.store true 4 (t 8) (t 39))]))
abbrev Fg:an:=
  (.block 3 (sr [mc 9 0]
  (.seq (sr [ld 40 5,mv 41 7,ad 42 41 1,od 43 (.bin .eql (t 40) (t 42)),
 mv 44 43,og 45 (.move (t 7)) 44 false,og 46 (.bin .eql (t 45) (ic 0)) 44 false,og 47 (.move (t 46)) 44 false,
 og 48 (.load false 1 (t 5)) 47 true,og 49 (.load false 1 (t 4)) 47 true,og 50 (.bin .eql (t 48) (t 49)) 47 true,og 51 (.pick (t 47) (t 50) (.const (.bool false))) 44 false,
 og 52 (.move (t 51)) 44 false,og 53 (.load false 1 (t 1)) 52 true,og 54 (.call 880 false (fc 183) [(t 53)]) 52 true,og 55 (.pick (t 52) (t 54) (.const (.bool false))) 44 false,
 od 56 (.pick (t 44) (.const (.bool true)) (t 55))]
  (.cond (t 56)
  (rn [mc 9 1])
  .skip))
  (sr [la 57 4 6,la 58 4 8,ca 59 960 184 [(t 57),(t 58)],mv 60 9,
 od 61 (.bin .neq (t 59) (t 60))]
  (.cond (t 61)
  (sr [ow (.store false 1 (t 3) (ic 11))]
  (.exit 0))
  .skip)))))
abbrev Fh:an:=
 (sr [od 5 (.new 96 1 (ic 0)),ow (.store false 1 (t 5) (t 26))]
 (rn [od 6 (.new 112 4 (.const (.agg [i0,i0,i0,i0]))),ow (.store true 4 (t 6) (t 27))]))
abbrev Fi:an:=
  (.block 1 (.seq (sr [fa 28 0 6,la 29 2 28,fa 30 2 6,la 31 2 30,
 od 32 (.yy false [1,1] (t 29) (t 31))]
  (.cond (t 32)
  (sr [ow (.store false 1 (t 3) (ic 11))]
  (.exit 0))
  .skip))
  (sr [ld 33 1,ld 34 5,ad 35 34 1,od 36 (.slice 2 (t 33) none (some (t 35)) none),
 ca 37 608 182 [(t 36)]]
  (.block 2 (.iY (t 37) [38,39] Ff Fg)))))
def It:an:=
  (sr [od 1 (.new 32 1 (t 0)),mc 2 0]
  (.scope (.seq (sr [ld 10 1,ln 11 10,od 12 (.bin .lss (t 11) (ic 2)),mv 13 12,
 og 14 (.load false 1 (t 1)) 13 false,og 15 (.len (t 14)) 13 false,og 16 (.bin .gtr (t 15) (ic 40)) 13 false,od 17 (.pick (t 13) (.const (.bool true)) (t 16))]
  (.cond (t 17)
  (sr [mc 2 2]
  .ret)
  .skip))
  (.seq (sr [ld 18 1,ca 19 320 181 [(t 18)],od 20 (.un .not (t 19))]
  (.cond (t 20)
  (sr [mc 2 10]
  .ret)
  .skip))
  (.seq (.drawn [ld 21 1,op 22 (.len (t 21)) [0],op 23 (.bin .sub (t 22) (ic 2)) [1],od 3 (.new 64 1 (ic 0)),
 od 4 (.new 80 1 (ic 0)),⟨none,.store false 1 (t 3) (ic 0),none,[3,3,4]⟩,⟨none,.store false 1 (t 4) (t 23),none,([4,2,5]++rg 6)⟩])
  (.seq .skip
  (.seq (sr [ld 24 1,ca 25 416 182 [(t 24)]]
  (.block 0 (.iY (t 25) [26,27] Fh Fi)))
  (sr [ld 62 3,mv 2 62]
  .ret))))))))
def f144:aD:=⟨1,63,[],[.tmp 2],It,none⟩
abbrev Fj:an:=
 (sr [od 6 (.new 112 2 (.const (.agg [i0,i0]))),ow (.store true 2 (t 6) (t 11))]
 (rn [od 7 (.new 128 2 (.const (.agg [i0,i0]))),ow (.store true 2 (t 7) (t 12))]))
abbrev Fk:an:=
  (.block 1 (sr [fa 13 2 2,la 14 2 13,fa 15 4 2,la 16 2 15,
 fa 17 6 2,la 18 2 17,la 19 2 6,la 20 2 7,
 ca 21 352 553 [(t 14),(t 16),(t 18),(t 19),(t 20)]]
  (.cond (t 21)
  (sr [ow (.store false 1 (t 5) (.const (.bool false)))]
  (.exit 0))
  .skip)))
def Iu:an:=
  (sr [od 2 (.new 48 8 (t 0)),od 3 (.new 64 4 (t 1)),od 4 (.move (.const (.bool false)))]
  (.scope (sr [od 5 (.new 96 1 (.const (.bool false))),ow (.store false 1 (t 5) (.const (.bool true)))]
  (.seq .skip
  (.seq (sr [la 8 8 2,la 9 4 3,ca 10 176 552 [(t 8),(t 9)]]
  (.block 0 (.iY (t 10) [11,12] Fj Fk)))
  (sr [ld 22 5,mv 23 22,og 24 (.fieldAddr 3 (t 3)) 23 true,og 25 (.load false 1 (t 24)) 23 true,
 og 26 (.fy 555 [(t 2)]) 23 true,og 27 (.call 448 false (fc 554) [(t 25),(t 26)]) 23 true,og 28 (.un .not (t 27)) 23 true,od 29 (.pick (t 23) (t 28) (.const (.bool false))),
 mv 4 29]
  .ret))))))
def Iv:aD:=⟨2,30,[],[.tmp 4],Iu,none⟩
def Iw:an:=
  (sr [od 2 (.new 48 2 (t 0)),od 3 (.new 64 2 (t 1)),mc 4 0]
  (sr [fa 5 0 2,ld 6 5,fa 7 1 3,ld 8 7,
 od 9 (.bin .mul (t 6) (t 8)),fa 10 1 2,ld 11 10,fa 12 0 3,
 ld 13 12,od 14 (.bin .mul (t 11) (t 13)),od 15 (.bin .sub (t 9) (t 14)),mv 4 15]
  .ret))
def Ix:aD:=⟨2,16,[],[.tmp 4],Iw,none⟩
def Na:an:=
  (sr [od 2 (.new 48 2 (t 0)),od 3 (.new 64 2 (t 1)),od 4 (.new 80 2 (.const (.agg [i0,i0])))]
  (sr [fa 5 0 2,ld 6 5,fa 7 0 3,ld 8 7,
 od 9 (.bin .sub (t 6) (t 8)),fa 10 1 2,ld 11 10,fa 12 1 3,
 ld 13 12,od 14 (.bin .sub (t 11) (t 13)),od 15 (.build [i0,i0] [(0,1,(t 9)),(1,1,(t 14))]),ow (.store true 2 (t 4) (t 15))]
  .ret))
def f37:aD:=⟨2,16,[],[.cell 4 true 2],Na,none⟩
abbrev Iy:an:=
  (.seq (sr [mv 11 3,mv 12 3,od 13 (.bin .mul (t 11) (t 12)),mv 14 0,
 od 15 (.bin .gtr (t 13) (t 14))]
  (.cond (t 15)
  .skip
  (.exit 0)))
  (.block 1 (rn [mv 16 3,od 17 (.bin .sub (t 16) (ic 1)),mv 3 17])))
abbrev Iz:an:=
  (.seq (sr [mv 18 3,od 19 (.bin .lss (t 18) (ic 3037000499)),mv 20 19,og 21 (.move (t 3)) 20 true,
 og 22 (.bin .add (t 21) (ic 1)) 20 true,og 23 (.move (t 3)) 20 true,og 24 (.bin .add (t 23) (ic 1)) 20 true,og 25 (.bin .mul (t 22) (t 24)) 20 true,
 og 26 (.move (t 0)) 20 true,og 27 (.bin .leq (t 25) (t 26)) 20 true,od 28 (.pick (t 20) (t 27) (.const (.bool false)))]
  (.cond (t 28)
  .skip
  (.exit 2)))
  (.block 3 (rn [mv 29 3,ad 30 29 1,mv 3 30])))
def Nb:an:=
  (sr [mc 2 0]
  (.seq (sr [mv 4 0,od 5 (.bin .leq (t 4) (ic 0))]
  (.cond (t 5)
  (sr [mc 2 0]
  .ret)
  .skip))
  (sr [mv 6 0,od 7 (.pf (t 6)),ca 8 144 41 [(t 7)],od 9 (.pg .i64 (t 8)),
 od 10 (.min [(t 9),(ic 3037000499)]),mv 3 10]
  (.seq (.block 0 (.loop Iy))
  (.seq (.block 2 (.loop Iz))
  (sr [mv 31 3,mv 2 31]
  .ret))))))
def f27:aD:=⟨1,32,[],[.tmp 2],Nb,none⟩
def IA:an:=
  (sr [od 2 (.new 48 2 (t 0)),od 3 (.new 64 2 (t 1)),od 4 (.new 80 2 (.const (.agg [i0,i0])))]
  (sr [fa 5 0 2,ld 6 5,fa 7 0 3,ld 8 7,
 od 9 (.bin .sub (t 6) (t 8)),fa 10 1 2,ld 11 10,fa 12 1 3,
 ld 13 12,od 14 (.bin .sub (t 11) (t 13)),od 15 (.build [i0,i0] [(0,1,(t 9)),(1,1,(t 14))]),ow (.store true 2 (t 4) (t 15))]
  .ret))
def f161:aD:=⟨2,16,[],[.cell 4 true 2],IA,none⟩
def IB:an:=
  (sr [od 2 (.new 48 4 (t 0)),od 3 (.new 64 1 (t 1)),mc 4 0]
  (sr [fa 5 0 2,ld 6 5,od 7 (.fy 557 [(t 3)]),ca 8 144 216 [(t 6),(t 7)],
 mv 4 8]
  .ret))
def IC:aD:=⟨2,9,[],[.tmp 4],IB,none⟩
def ID:an:=
  (sr [mv 5 0,ln 6 5,mv 4 6]
  (rn [mv 7 0,mv 8 4,mv 9 4,od 10 (.c8 .u64 (t 9)),
 ca 11 192 40 [(t 10)],mv 12 1,ca 13 224 558 [(t 7),(ic 0),(t 8),(t 11),(t 12)]]))
def Nc:aD:=⟨2,14,[some 5,none],[],ID,none⟩
def IE:an:=
  (sr [od 2 (.new 48 5 (t 0)),od 3 (.new 64 5 (t 1)),mc 4 0]
  (.seq (.drawn [fa 5 2 2,op 6 (.load false 1 (t 5)) [0],fa 7 2 3,op 8 (.load false 1 (t 7)) [2],
 op 9 (.call 160 false (fc 23) [(t 6),(t 8)]) [1,3],fa 10 4 2,op 11 (.load false 1 (t 10)) [5],fa 12 4 3,
 op 13 (.load false 1 (t 12)) [7],op 14 (.call 240 false (fc 23) [(t 11),(t 13)]) [6,8,4],op 15 (.buildSlice 256 1 (i0) 2 [(0,(t 9)),(1,(t 14))]) [4,9],op 16 (.call 272 false (fc 22) [(t 15)]) [10,9],
 op 4 (.move (t 16)) ([11,11]++rg 12)])
  .ret))
def Nf:aD:=⟨2,17,[],[.tmp 4],IE,none⟩
abbrev IF:an:=
  (.seq (sr [mv 55 12,mv 56 9,ls 57 55 56]
  (.cond (t 57)
  .skip
  (.exit 2)))
  (.seq (.block 3 (sr [mv 60 11,mv 61 12,mv 62 11,od 63 (.bin .add (ic 21) (t 62)),
 mv 64 8,mv 65 12,od 66 (.bin .mul (t 64) (t 65)),od 67 (.bin .add (t 63) (t 66)),
 od 68 (.aW 3 2 (t 10) (t 60)),od 69 (.aW 2 1 (t 68) (t 61)),ow (.store false 1 (t 69) (t 67))]
  (.seq (sr [mv 70 11,od 71 (.bin .gtr (t 70) (ic 0)),mv 72 71,og 73 (.move (t 7)) 72 true,
 og 74 (.call 1200 false (fc 85) [(t 73),(ic 5)]) 72 true,og 75 (.bin .eql (t 74) (ic 0)) 72 true,od 76 (.pick (t 72) (t 75) (.const (.bool false)))]
  (.cond (t 76)
  (.drawn [mv 77 11,mv 78 12,mv 79 11,op 80 (.bin .sub (t 79) (ic 1)) [2],
 mv 81 12,op 82 (.aW 3 2 (t 10) (t 80)) [3],op 83 (.aW 2 1 (t 82) (t 81)) [5,4],op 84 (.load false 1 (t 83)) [6],
 op 85 (.aW 3 2 (t 10) (t 77)) [0],op 86 (.aW 2 1 (t 85) (t 78)) ([8,1]++rg 8),⟨none,.store false 1 (t 86) (t 84),none,([9,7]++rg 8)⟩])
  .skip))
  (sr [mv 87 12,od 88 (.bin .gtr (t 87) (ic 0)),mv 89 88,og 90 (.move (t 7)) 89 true,
 og 91 (.call 1472 false (fc 85) [(t 90),(ic 5)]) 89 true,og 92 (.bin .eql (t 91) (ic 0)) 89 true,od 93 (.pick (t 89) (t 92) (.const (.bool false)))]
  (.cond (t 93)
  (.drawn [mv 94 11,mv 95 12,mv 96 11,mv 97 12,
 op 98 (.bin .sub (t 97) (ic 1)) [3],op 99 (.aW 3 2 (t 10) (t 96)) [2],op 100 (.aW 2 1 (t 99) (t 98)) [5,4],op 101 (.load false 1 (t 100)) [6],
 op 102 (.aW 3 2 (t 10) (t 94)) [0],op 103 (.aW 2 1 (t 102) (t 95)) ([8,1]++rg 8),⟨none,.store false 1 (t 103) (t 101),none,([9,7]++rg 8)⟩])
  .skip)))))
  (rn [mv 58 12,ad 59 58 1,mv 12 59])))
abbrev u7:an:=
 (.seq (sr [mv 50 11,mv 51 8,ls 52 50 51]
 (.cond (t 52)
 .skip
 (.exit 0)))
 (.seq (.block 1 (sr [mc 12 0]
 (.block 2 (.loop IF))))
 (rn [mv 53 11,ad 54 53 1,mv 11 54])))
abbrev IG:an:=
  (.seq (sr [mv 112 16,mv 113 8,ls 114 112 113]
  (.cond (t 114)
  .skip
  (.exit 6)))
  (.seq (.block 7 (.drawn [mv 117 14,mv 118 5,mv 119 16,mv 120 15,
 op 121 (.call 1952 false (fc 115) [(t 118),(t 119),(t 120)]) [1,2,3],mv 122 5,mv 123 16,op 124 (.bin .add (t 123) (ic 1)) [6],
 mv 125 15,op 126 (.call 2032 false (fc 115) [(t 122),(t 124),(t 125)]) [5,7,8,4],mv 127 13,op 128 (.call 2064 false (fc 114) [(t 121),(t 126),(t 127)]) [4,9,10,9],
 la 129 6 10,mv 130 8,mv 131 9,mv 132 16,
 mv 133 15,op 134 (.call 2160 false (fc 116) [(t 129),(t 130),(t 131),(t 132),(t 133)]) [12,13,14,15,16,11],la 135 6 10,mv 136 8,
 mv 137 9,mv 138 16,mv 139 15,op 140 (.bin .sub (t 139) (ic 1)) [22],
 op 141 (.call 2272 false (fc 116) [(t 135),(t 136),(t 137),(t 138),(t 140)]) [18,19,20,21,23,17],mv 142 13,op 143 (.call 2304 true (fc 113) [(t 117),(t 128),(t 134),(t 141),(t 142)]) [0,11,17,24,25,24],op 14 (.nk 241 (t 143)) ([26,26]++rg 27)]))
  (rn [mv 115 16,ad 116 115 1,mv 16 116])))
abbrev CG:an:=
 (.seq (sr [mv 107 15,mv 108 9,od 109 (.bin .leq (t 107) (t 108))]
 (.cond (t 109)
 .skip
 (.exit 4)))
 (.seq (.block 5 (sr [mc 16 0]
 (.block 6 (.loop IG))))
 (rn [mv 110 15,ad 111 110 1,mv 15 111])))
abbrev IH:an:=
  (.seq (sr [mv 149 18,mv 150 8,od 151 (.bin .leq (t 149) (t 150))]
  (.cond (t 151)
  .skip
  (.exit 10)))
  (.seq (.block 11 (.drawn [mv 154 14,mv 155 5,mv 156 18,mv 157 17,
 op 158 (.call 2544 false (fc 115) [(t 155),(t 156),(t 157)]) [1,2,3],mv 159 5,mv 160 18,mv 161 17,
 op 162 (.bin .add (t 161) (ic 1)) [7],op 163 (.call 2624 false (fc 115) [(t 159),(t 160),(t 162)]) [5,6,8,4],mv 164 13,op 165 (.call 2656 false (fc 114) [(t 158),(t 163),(t 164)]) [4,9,10,9],
 la 166 6 10,mv 167 8,mv 168 9,mv 169 18,
 op 170 (.bin .sub (t 169) (ic 1)) [15],mv 171 17,op 172 (.call 2768 false (fc 116) [(t 166),(t 167),(t 168),(t 170),(t 171)]) [12,13,14,16,17,11],la 173 6 10,
 mv 174 8,mv 175 9,mv 176 18,mv 177 17,
 op 178 (.call 2864 false (fc 116) [(t 173),(t 174),(t 175),(t 176),(t 177)]) [19,20,21,22,23,18],mv 179 13,op 180 (.call 2896 true (fc 113) [(t 154),(t 165),(t 172),(t 178),(t 179)]) [0,11,18,24,25,24],op 14 (.nk 241 (t 180)) ([26,26]++rg 27)]))
  (rn [mv 152 18,ad 153 152 1,mv 18 153])))
abbrev CH:an:=
 (.seq (sr [mv 144 17,mv 145 9,ls 146 144 145]
 (.cond (t 146)
 .skip
 (.exit 8)))
 (.seq (.block 9 (sr [mc 18 0]
 (.block 10 (.loop IH))))
 (rn [mv 147 17,ad 148 147 1,mv 17 148])))
def CI:an:=
  (sr [od 2 (.move (.const (.lit 4 []))),od 3 (.move (.const (.lit 5 [])))]
  (sr [od 4 (.move (.const (.lit 1 []))),od 5 (.move (.const (.lit 1 []))),od 6 (.move (.const (.lit 1 [])))]
  (.seq (sr [mv 21 0,ln 22 21,od 23 (.bin .gtr (t 22) (ic 0))]
  (.cond (t 23)
  (rn [mv 24 0,od 25 (.indexAddr 1 (t 24) (ic 0)),ld 26 25,mv 4 26])
  .skip))
  (.seq (sr [mv 27 0,ln 28 27,od 29 (.bin .gtr (t 28) (ic 1))]
  (.cond (t 29)
  (rn [mv 30 0,od 31 (.indexAddr 1 (t 30) (ic 1)),ld 32 31,mv 5 32])
  .skip))
  (.seq (sr [mv 33 0,ln 34 33,od 35 (.bin .gtr (t 34) (ic 2))]
  (.cond (t 35)
  (rn [mv 36 0,od 37 (.indexAddr 1 (t 36) (ic 2)),ld 38 37,mv 6 38])
  .skip))
  (sr [mv 39 4,od 40 (.build [.lit 1 [],i0] [(0,1,(t 39))]),od 41 (.new 672 2 (t 40)),mv 7 41]
  (sr [mv 42 7,ca 43 704 85 [(t 42),(ic 3)],od 44 (.bin .add (ic 1) (t 43)),mv 8 44]
  (sr [mv 45 7,ca 46 752 85 [(t 45),(ic 2)],od 47 (.bin .add (ic 1) (t 46)),mv 9 47]
  (.seq (sr [mv 48 8,eq 49 48 3]
  (.cond (t 49)
  (rn [mc 9 1])
  .skip))
  (sr [od 10 (.new 176 6 (.const (.agg [i0,i0,i0,i0,i0,i0])))]
  (.seq (sr [mc 11 0]
  (.block 0 (.loop u7)))
  (sr [mv 104 6,od 105 (.build [.lit 1 [],i0] [(0,1,(t 104))]),od 106 (.new 1712 2 (t 105)),mv 13 106]
  (sr [od 14 (.b7 241 4)]
  (.seq (sr [mc 15 0]
  (.block 4 (.loop CG)))
  (.seq (sr [mc 17 0]
  (.block 8 (.loop CH)))
  (.seq (sr [mv 181 7,ca 182 2928 85 [(t 181),(ic 2)],eq 183 182 1]
  (.cond (t 183)
  (sr [mv 184 7,mv 185 8,ca 186 2992 85 [(t 184),(t 185)],mv 19 186]
  (sr [mv 187 7,mv 188 9,ca 189 3040 85 [(t 187),(t 188)],mv 20 189]
  (rn [mv 190 14,mv 191 19,od 192 (.bin .mul (ic 100) (t 191)),od 193 (.bin .add (ic 90) (t 192)),
 mv 194 20,od 195 (.bin .mul (ic 100) (t 194)),od 196 (.bin .add (ic 90) (t 195)),od 197 (.build [i0,i0] [(0,1,(t 193)),(1,1,(t 196))]),
 mv 198 19,mv 199 20,od 200 (.aW 3 2 (t 10) (t 198)),od 201 (.aW 2 1 (t 200) (t 199)),
 ld 202 201,mv 203 13,od 204 (.call 3280 true (fc 117) [(t 190),(t 197),(t 202),(t 203)]),od 14 (.nk 241 (t 204))])))
  .skip))
  (sr [mv 205 14,mv 206 14,od 207 (.call 3328 true (fc 118) [(t 206)]),mv 2 205,
 mv 3 207]
  .ret)))))))))))))))))
def f83:aD:=⟨1,208,[],[.tmp 2,.tmp 3],CI,none⟩
def Ng:an:=
  (sr [od 4 (.move (.const (.lit 1 [])))]
  (.seq (sr [mv 5 1,mv 6 0,ln 7 6,od 8 (.bin .geq (t 5) (t 7))]
  (.cond (t 8)
  (sr [od 4 (.move (.const (.lit 1 [])))]
  .ret)
  .skip))
  (sr [mv 9 0,mv 10 1,od 11 (.indexAddr 1 (t 9) (t 10)),ld 12 11,
 mv 4 12]
  .ret)))
def f84:aD:=⟨2,13,[],[.tmp 4],Ng,none⟩
def Nh:an:=
  (sr [mc 4 0]
  (.seq (.seq (.drawn [mv 5 0,op 6 (.nilCheck (t 5)) [0],op 7 (.fieldAddr 1 (t 6)) [1],op 8 (.load false 1 (t 7)) [2],
 mv 9 0,op 10 (.nilCheck (t 9)) [4],op 11 (.fieldAddr 0 (t 10)) [5],op 12 (.load false 1 (t 11)) [6],
 op 13 (.len (t 12)) [7],op 14 (.bin .geq (t 8) (t 13)) [3,8]])
  (.cond (t 14)
  (sr [mc 4 0]
  .ret)
  .skip))
  (sr [mv 15 0,od 16 (.nilCheck (t 15)),fa 17 1 16,ld 18 17,
 ad 19 18 1,od 20 (.nilCheck (t 15)),fa 21 1 20,ow (.store false 1 (t 21) (t 19))]
  (.seq (.drawn [mv 22 0,op 23 (.nilCheck (t 22)) [0],op 24 (.fieldAddr 0 (t 23)) [1],op 25 (.load false 1 (t 24)) [2],
 mv 26 0,op 27 (.nilCheck (t 26)) [4],op 28 (.fieldAddr 1 (t 27)) [5],op 29 (.load false 1 (t 28)) [6],
 op 30 (.bin .sub (t 29) (ic 1)) [7],op 31 (.indexAddr 1 (t 25) (t 30)) [3,8],op 32 (.load false 1 (t 31)) [9],mv 33 1,
 op 34 (.call 560 false (fc 93) [(t 32),(t 33)]) [10,11],op 4 (.move (t 34)) ([12,12]++rg 13)])
  .ret))))
def f85:aD:=⟨2,35,[some 2,none],[.tmp 4],Nh,none⟩
abbrev II:an:=
  (.seq (sr [mv 15 6,od 16 (.bin .lss (t 15) (ic 3))]
  (.cond (t 16)
  .skip
  (.exit 2)))
  (.seq (.block 3 (sr [mv 19 3,ca 20 336 85 [(t 19),(ic 2)],eq 21 20 0]
  (.cond (t 21)
  (rn [mv 22 4,mv 23 6,mv 24 5,ca 25 416 120 [(t 23),(t 24)],
 mv 26 6,ad 27 26 1,mv 28 5,ca 29 480 120 [(t 27),(t 28)],
 mv 30 3,od 31 (.call 512 true (fc 119) [(t 22),(t 25),(t 29),(ic 0),(t 30)]),od 4 (.nk 81 (t 31))])
  .skip)))
  (rn [mv 17 6,ad 18 17 1,mv 6 18])))
abbrev IJ:an:=
 (.seq (sr [mv 11 5,od 12 (.bin .lss (t 11) (ic 2))]
 (.cond (t 12)
 .skip
 (.exit 0)))
 (.seq (.block 1 (sr [mc 6 0]
 (.block 2 (.loop II))))
 (rn [mv 13 5,ad 14 13 1,mv 5 14])))
abbrev IK:an:=
  (.seq (sr [mv 32 7,od 33 (.bin .lss (t 32) (ic 4)),mv 34 33,og 35 (.move (t 4)) 34 true,
 og 36 (.len (t 35)) 34 true,og 37 (.bin .lss (t 36) (ic 5)) 34 true,od 38 (.pick (t 34) (t 37) (.const (.bool false)))]
  (.cond (t 38)
  .skip
  (.exit 4)))
  (.seq (.block 5 (sr [mv 41 3,ca 42 688 85 [(t 41),(ic 2)],eq 43 42 0]
  (.cond (t 43)
  (rn [mv 44 4,mv 45 7,ca 46 752 120 [(t 45),(ic 0)],mv 47 7,
 ca 48 784 120 [(t 47),(ic 1)],mv 49 3,od 50 (.call 816 true (fc 119) [(t 44),(t 46),(t 48),(ic 0),(t 49)]),od 4 (.nk 81 (t 50))])
  .skip)))
  (rn [mv 39 7,ad 40 39 1,mv 7 40])))
def Ni:an:=
  (sr [od 2 (.move (.const (.lit 8 [])))]
  (sr [mv 8 0,od 9 (.build [.lit 1 [],i0] [(0,1,(t 8))]),od 10 (.new 176 2 (t 9)),mv 3 10]
  (sr [od 4 (.b7 81 8)]
  (.seq (sr [mc 5 0]
  (.block 0 (.loop IJ)))
  (.seq (sr [mc 7 0]
  (.block 4 (.loop IK)))
  (.seq (sr [mv 51 3,ca 52 848 85 [(t 51),(ic 3)],eq 53 52 0]
  (.cond (t 53)
  (rn [mv 54 4,ca 55 896 120 [(ic 0),(ic 0)],mv 56 3,ca 57 928 85 [(t 56),(ic 2)],
 od 58 (.bin .add (ic 2) (t 57)),ca 59 960 120 [(t 58),(ic 1)],mv 60 3,od 61 (.call 992 true (fc 119) [(t 54),(t 55),(t 59),(ic 1),(t 60)]),
 od 4 (.nk 81 (t 61))])
  .skip))
  (.seq (sr [mv 62 3,ca 63 1024 85 [(t 62),(ic 4)],eq 64 63 0]
  (.cond (t 64)
  (rn [mv 65 4,ca 66 1072 120 [(ic 1),(ic 1)],ca 67 1088 120 [(ic 3),(ic 0)],mv 68 3,
 od 69 (.call 1120 true (fc 119) [(t 65),(t 66),(t 67),(ic (-1)),(t 68)]),od 4 (.nk 81 (t 69))])
  .skip))
  (sr [mv 70 4,mv 2 70]
  .ret))))))))
def f86:aD:=⟨1,71,[],[.tmp 2],Ni,none⟩
abbrev IL:an:=
  (.seq (sr [mv 18 8,mv 19 7,ls 20 18 19]
  (.cond (t 20)
  .skip
  (.exit 0)))
  (.seq (.block 1 (sr [mv 23 5,ca 24 400 85 [(t 23),(ic 10)],od 25 (.bin .add (ic 16) (t 24)),mv 9 25]
  (.seq (sr [mv 26 5,ca 27 448 85 [(t 26),(ic 2)],eq 28 27 1]
  (.cond (t 28)
  (rn [mv 29 9,od 30 (.un .neg (t 29)),mv 9 30])
  .skip))
  (sr [mv 31 6,ln 32 31,od 33 (.bin .add (ic 61) (t 32)),mv 34 5,
 ca 35 576 85 [(t 34),(ic 3)],od 36 (.bin .mul (ic 100) (t 35)),od 37 (.bin .add (ic 90) (t 36)),mv 38 9,
 od 39 (.bin .add (t 37) (t 38)),mv 40 5,ca 41 672 85 [(t 40),(ic 2)],od 42 (.bin .mul (ic 100) (t 41)),
 od 43 (.bin .add (ic 90) (t 42)),mv 44 5,ca 45 736 85 [(t 44),(ic 51)],od 46 (.bin .add (t 43) (t 45)),
 od 47 (.bin .sub (t 46) (ic 25)),od 48 (.build [i0,i0] [(0,1,(t 39)),(1,1,(t 47))]),mv 49 5,ca 50 816 85 [(t 49),(ic 60)],
 od 51 (.bin .add (ic 1) (t 50)),od 52 (.build [i0,i0,i0,.str [],.str [],i0,i0] [(0,1,(t 33)),(1,2,(t 48)),(5,1,(t 51))]),od 10 (.new 176 7 (.const (.agg [i0,i0,i0,.str [],.str [],i0,i0]))),ow (.store true 7 (t 10) (t 52))]
  (sr [od 53 (.buildSlice 864 1 (.str []) 3 [(0,(.const (.str [116,114,101,101]))),(1,(.const (.str [116,114,101,101]))),(2,(.const (.str [115,104,111,112])))]),mv 54 5,ca 55 896 85 [(t 54),(ic 3)],od 56 (.indexAddr 1 (t 53) (t 55)),
 ld 57 56,fa 58 3 10,ow (.store false 1 (t 58) (t 57))]
  (sr [od 59 (.buildSlice 960 1 (.str []) 5 [(0,(.const (.str []))),(1,(.const (.str []))),(2,(.const (.str [71,97,116,101]))),(3,(.const (.str [79,97,107]))),(4,(.const (.str [84,104,101,32,87,101,108,108])))]),mv 60 5,ca 61 992 85 [(t 60),(ic 5)],od 62 (.indexAddr 1 (t 59) (t 61)),
 ld 63 62,fa 64 4 10,ow (.store false 1 (t 64) (t 63))]
  (sr [fa 66 0 2,ld 67 66,fa 68 1 10,la 69 2 68,
 ca 70 1136 121 [(t 67),(t 69)],mv 65 70,xt 71 65 0,xt 72 65 1,
 mv 11 71,mv 12 72]
  (sr [la 73 4 2,mv 74 11,ca 75 1216 122 [(t 73),(t 74)],fa 76 6 10,
 ow (.store false 1 (t 76) (t 75))]
  (sr [mv 77 12,mv 78 77,og 79 (.fieldAddr 6 (t 10)) 78 true,og 80 (.load false 1 (t 79)) 78 true,
 og 81 (.bin .gtr (t 80) (ic 0)) 78 true,od 82 (.pick (t 78) (t 81) (.const (.bool false)))]
  (.cond (t 82)
  (rn [mv 83 6,la 84 7 10,od 85 (.buildSlice 1376 7 (.agg [i0,i0,i0,.str [],.str [],i0,i0]) 1 [(0,(t 84))]),od 86 (.append 113 7 1927910799188 (t 83) (t 85)),
 od 6 (.nk 113 (t 86))])
  .skip))))))))))
  (rn [mv 21 8,ad 22 21 1,mv 8 22])))
def Nj:an:=
 (sr [od 2 (.new 48 4 (t 0)),od 4 (.b7 81 7)]
 (sr [mv 13 1,od 14 (.build [.lit 1 [],i0] [(0,1,(t 13))]),od 15 (.new 256 2 (t 14)),mv 5 15]
 (sr [od 6 (.b7 113 7)]
 (sr [mv 16 5,ca 17 288 85 [(t 16),(ic 7)],mv 7 17]
 (.seq (sr [mc 8 0]
 (.block 0 (.loop IL)))
 (sr [mv 87 6,mv 4 87]
 .ret))))))
def f87:aD:=⟨2,88,[],[.tmp 4],Nj,none⟩
abbrev Fl:an:=
  (.seq (sr [mv 16 4,od 17 (.bin .geq (t 16) (ic 0))]
  (.cond (t 17)
  .skip
  (.exit 0)))
  (.seq (.block 1 (.drawn [fa 20 1 3,op 21 (.load false 1 (t 20)) [0],fa 22 1 1,op 23 (.load false 1 (t 22)) [2],
 mv 24 4,op 25 (.indexAddr 2 (t 23) (t 24)) [3,4],op 26 (.load true 2 (t 25)) [5],op 27 (.buildSlice 448 2 (.agg [i0,i0]) 1 [(0,(t 26))]) [6],
 op 28 (.append 67 2 8278675785407 (t 21) (t 27)) [1,7],op 29 (.fieldAddr 1 (t 3)) (rg 9),⟨none,.store false 1 (t 29) (t 28),none,([9,8,8]++rg 9)⟩]))
  (rn [mv 18 4,od 19 (.bin .sub (t 18) (ic 1)),mv 4 19])))
def IM:an:=
  (sr [od 1 (.new 32 4 (t 0)),od 2 (.new 48 4 (.const (.agg [i0,.lit 2 [],i0,i0])))]
  (sr [fa 5 0 1,ld 6 5,fa 7 3 1,ld 8 7,
 fa 9 2 1,ld 10 9,od 11 (.build [i0,.nils,i0,i0] [(0,1,(t 6)),(2,1,(t 8)),(3,1,(t 10))]),od 3 (.new 64 4 (.const (.agg [i0,.nils,i0,i0]))),
 ow (.store true 4 (t 3) (t 11))]
  (.seq (sr [fa 12 1 1,ld 13 12,ln 14 13,od 15 (.bin .sub (t 14) (ic 1)),
 mv 4 15]
  (.block 0 (.loop Fl)))
  (sr [od 30 (.rD [0,2,0,0] true 4 (t 3)),ow (.store true 4 (t 2) (t 30))]
  .ret))))
def f131:aD:=⟨1,31,[],[.cell 2 true 4],IM,none⟩
def IN:an:=
  (sr [od 6 (.move (.const (.lit 2 [])))]
  (sr [mv 8 0,mv 9 1,mv 10 2,mv 11 0,
 ln 12 11,od 13 (.slice 2 (t 8) (some (t 9)) (some (t 10)) (some (t 12)))]
  (.seq (sr [mv 14 1,mv 15 2,od 16 (.bin .eql (t 14) (t 15))]
  (.cond (t 16)
  (sr [mv 17 0,mv 6 17]
  .ret)
  .skip))
  (sr [mv 18 0,ln 19 18,mv 7 19]
  (.seq (.drawn [mv 20 0,mv 21 1,op 22 (.slice 2 (t 20) none (some (t 21)) none) [0,1],mv 23 0,
 mv 24 2,op 25 (.slice 2 (t 23) (some (t 24)) none none) [3,4],op 26 (.append 432 2 8278675785407 (t 22) (t 25)) [2,5],op 0 (.move (t 26)) ([6,6]++rg 7)])
  (sr [mv 27 0,mv 28 0,ln 29 28,mv 30 7,
 od 31 (.slice 2 (t 27) (some (t 29)) (some (t 30)) none),ow (.clear 2 (.agg [i0,i0]) (t 31))]
  (sr [mv 32 0,mv 6 32]
  .ret)))))))
def IP:aD:=⟨3,33,[some 2,none,none],[.tmp 6],IN,none⟩
def IQ:an:=
  (sr [od 2 (.new 48 1 (t 0)),mc 3 0]
  (sr [fa 5 1 1,ld 6 5,od 7 (.fy 551 [(t 2)]),ca 8 144 179 [(t 6),(t 7)],
 mv 4 8]
  (.seq (sr [mv 9 4,od 10 (.bin .lss (t 9) (ic 0))]
  (.cond (t 10)
  (sr [mc 3 0]
  .ret)
  .skip))
  (sr [fa 11 1 1,ld 12 11,mv 13 4,od 14 (.indexAddr 5 (t 12) (t 13)),
 fa 15 4 14,ld 16 15,mv 3 16]
  .ret))))
def IS:aD:=⟨2,17,[],[.tmp 3],IQ,none⟩
abbrev Fm:an:=
  (sr [ls 9 8 7]
  (.seq (.cond (t 9)
  .skip
  (.exit 0))
  (.seq (.block 1 (sr [mv 10 8,mv 5 10]
  (sr [mv 11 1,mv 12 0,mv 13 5,od 14 (.indexAddr 5 (t 12) (t 13)),
 la 15 5 14,od 16 (.call 272 false (t 11) [(t 15)])]
  (.cond (t 16)
  (sr [mv 17 5,mv 4 17]
  .ret)
  .skip))))
  (rn [ad 18 8 1,mv 8 18]))))
def IT:an:=
 (sr [mc 4 0]
 (.seq (sr [mv 6 0,ln 7 6,mc 8 0]
 (.block 0 (.loop Fm)))
 (sr [mc 4 (-1)]
 .ret)))
def f179:aD:=⟨2,19,[],[.tmp 4],IT,none⟩
def IU:an:=
  (sr [od 2 (.new 48 5 (t 0)),od 3 (.move (.const (.bool false)))]
  (sr [fa 4 0 2,ld 5 4,ld 6 1,od 7 (.bin .eql (t 5) (t 6)),
 mv 3 7]
  .ret))
def IV:aD:=⟨2,8,[],[.tmp 3],IU,none⟩
def IW:an:=
 (sr [od 2 (.move (.const (.bool false)))]
 (sr [mv 3 0,ca 4 80 187 [(t 3),(fc 220)],od 5 (.un .not (t 4)),mv 2 5]
 .ret))
def f181:aD:=⟨1,6,[],[.tmp 2],IW,none⟩
def IX:an:=
 (sr [od 1 (.new 32 1 (t 0)),od 2 (.uW (.const (.nilfn)))]
 (sr [od 3 (.fy 221 [(t 1)]),od 2 (.uW (t 3))]
 .ret))
def f182:aD:=⟨1,4,[],[.tmp 2],IX,none⟩
def IY:an:=
  (sr [od 2 (.move (.const (.bool false)))]
  (.seq (.drawn [mv 3 0,op 4 (.len (t 3)) [0],op 5 (.bin .gtr (t 4) (ic 3)) [1],op 6 (.move (t 5)) [2],
 ⟨some 7,.move (t 0),some (6,true),[3]⟩,⟨some 8,.indexAddr 2 (t 7) (ic 0),some (6,true),[4,3]⟩,⟨some 9,.load true 2 (t 8),some (6,true),[5,3]⟩,⟨some 10,.move (t 0),some (6,true),[3]⟩,
 ⟨some 11,.move (t 0),some (6,true),[3]⟩,⟨some 12,.len (t 11),some (6,true),[8,3]⟩,⟨some 13,.bin .sub (t 12) (ic 1),some (6,true),[9,3]⟩,⟨some 14,.indexAddr 2 (t 10) (t 13),some (6,true),[7,10,3]⟩,
 ⟨some 15,.load true 2 (t 14),some (6,true),[11,3]⟩,⟨some 16,.yy false [1,1] (t 9) (t 15),some (6,true),[6,12,3]⟩,op 17 (.pick (t 6) (t 16) (.const (.bool false))) [3,13],op 2 (.move (t 17)) ([14,3]++rg 15)])
  .ret))
def f183:aD:=⟨1,18,[],[.tmp 2],IY,none⟩
def IZ:an:=
  (sr [od 2 (.new 48 4 (t 0)),od 3 (.new 64 4 (t 1)),mc 4 0]
  (sr [fa 5 0 2,la 6 2 5,fa 7 2 2,la 8 2 7,
 fa 9 0 3,la 10 2 9,fa 11 2 3,la 12 2 11,
 ca 13 224 222 [(t 6),(t 8),(t 10),(t 12)],mv 4 13]
  .ret))
def f184:aD:=⟨2,14,[],[.tmp 4],IZ,none⟩
def I0:an:=
 (sr [od 2 (.new 48 8 (t 0)),od 3 (.new 64 4 (t 1)),od 4 (.uW (.const (.nilfn)))]
 (sr [od 5 (.fy 564 [(t 3),(t 2)]),od 4 (.uW (t 5))]
 .ret))
def I1:aD:=⟨2,6,[],[.tmp 4],I0,none⟩
abbrev zV:an:=
  (sr [ls 31 30 29]
  (.seq (.cond (t 31)
  .skip
  (.exit 0))
  (.seq (.block 1 (sr [od 32 (.indexAddr 2 (t 28) (t 30)),la 33 2 32,od 12 (.new 208 2 (.const (.agg [i0,i0]))),ow (.store true 2 (t 12) (t 33))]
  (sr [la 34 2 12,la 35 2 5,od 36 (.yy true [1,1] (t 34) (t 35)),mv 37 36,
 og 38 (.load true 2 (t 12)) 37 true,og 39 (.load true 2 (t 7)) 37 true,og 40 (.yy true [1,1] (t 38) (t 39)) 37 true,od 41 (.pick (t 37) (t 40) (.const (.bool false))),
 mv 42 41,og 43 (.load true 2 (t 5)) 42 true,og 44 (.load true 2 (t 6)) 42 true,og 45 (.load true 2 (t 7)) 42 true,
 og 46 (.load true 2 (t 12)) 42 true,og 47 (.call 768 false (fc 565) [(t 43),(t 44),(t 45),(t 46)]) 42 true,od 48 (.pick (t 42) (t 47) (.const (.bool false)))]
  (.cond (t 48)
  (sr [od 10 (.move (.const (.bool true)))]
  .ret)
  .skip))))
  (rn [ad 49 30 1,mv 30 49]))))
abbrev zW:an:=
  (sr [ls 65 64 63]
  (.seq (.cond (t 65)
  .skip
  (.exit 2))
  (.seq (.block 3 (sr [od 66 (.indexAddr 4 (t 62) (t 64)),la 67 4 66,od 15 (.new 256 4 (.const (.agg [i0,i0,i0,i0]))),ow (.store true 4 (t 15) (t 67))]
  (sr [od 68 (.fy 566 [(t 13),(t 15)]),mv 16 68]
  (sr [la 69 4 13,la 70 4 15,ca 71 1152 184 [(t 69),(t 70)],mv 17 71]
  (sr [mv 72 17,od 73 (.bin .gtr (t 72) (ic 1)),mv 74 73,og 75 (.move (t 17)) 74 false,
 og 76 (.bin .eql (t 75) (ic 1)) 74 false,og 77 (.move (t 76)) 74 false,og 78 (.move (t 16)) 77 true,og 79 (.load true 2 (t 5)) 77 true,
 og 80 (.call 1296 false (t 78) [(t 79)]) 77 true,og 81 (.un .not (t 80)) 77 true,og 82 (.pick (t 77) (t 81) (.const (.bool false))) 74 false,og 83 (.move (t 82)) 74 false,
 og 84 (.move (t 16)) 83 true,og 85 (.load true 2 (t 7)) 83 true,og 86 (.call 1392 false (t 84) [(t 85)]) 83 true,og 87 (.un .not (t 86)) 83 true,
 og 88 (.pick (t 83) (t 87) (.const (.bool false))) 74 false,od 89 (.pick (t 74) (.const (.bool true)) (t 88))]
  (.cond (t 89)
  (sr [od 10 (.move (.const (.bool true)))]
  .ret)
  .skip))))))
  (rn [ad 90 64 1,mv 64 90]))))
def I2:an:=
  (sr [od 5 (.new 96 2 (t 0)),od 6 (.new 112 2 (t 1)),od 7 (.new 128 2 (t 2)),od 8 (.new 144 2 (t 3)),
 od 9 (.new 160 2 (t 4)),od 10 (.move (.const (.bool false)))]
  (.seq (sr [la 18 2 5,la 19 2 6,la 20 2 7,la 21 2 8,
 la 22 2 9,od 23 (.buildSlice 384 2 (.agg [i0,i0]) 5 [(0,(t 18)),(1,(t 19)),(2,(t 20)),(3,(t 21)),(4,(t 22))]),ca 24 400 181 [(t 23)],od 25 (.un .not (t 24))]
  (.cond (t 25)
  (sr [od 10 (.move (.const (.bool false)))]
  .ret)
  .skip))
  (.seq (sr [la 26 2 8,la 27 2 9,od 28 (.buildSlice 464 2 (.agg [i0,i0]) 2 [(0,(t 26)),(1,(t 27))]),ln 29 28,
 mc 30 0]
  (.block 0 (.loop zV)))
  (sr [la 50 2 8,la 51 2 9,od 52 (.build [i0,i0,i0,i0] [(0,2,(t 50)),(2,2,(t 51))]),od 13 (.new 224 4 (.const (.agg [i0,i0,i0,i0]))),
 ow (.store true 4 (t 13) (t 52))]
  (.seq (sr [la 53 2 5,la 54 2 6,od 55 (.build [i0,i0,i0,i0] [(0,2,(t 53)),(2,2,(t 54))]),la 56 2 6,
 la 57 2 7,od 58 (.build [i0,i0,i0,i0] [(0,2,(t 56)),(2,2,(t 57))]),la 59 2 7,la 60 2 5,
 od 61 (.build [i0,i0,i0,i0] [(0,2,(t 59)),(2,2,(t 60))]),od 62 (.buildSlice 1008 4 (.agg [i0,i0,i0,i0]) 3 [(0,(t 55)),(1,(t 58)),(2,(t 61))]),ln 63 62,mc 64 0]
  (.block 2 (.loop zW)))
  (sr [od 10 (.move (.const (.bool false)))]
  .ret))))))
def Fo:aD:=⟨5,91,[],[.tmp 10],I2,none⟩
def I3:an:=
  (sr [od 4 (.move (.const (.bool false)))]
  (sr [mv 5 0,mv 6 1,ca 7 128 33 [(t 5),(t 6)],od 8 (.bin .geq (t 7) (ic 0)),
 mv 4 8]
  .ret))
def I4:aD:=⟨2,9,[],[.tmp 4],I3,none⟩
def I5:an:=
  (sr [od 2 (.new 48 7 (t 0)),od 3 (.move (.const (.bool false)))]
  (sr [fa 4 2 1,la 5 2 4,fa 6 4 1,la 7 2 6,
 fa 8 6 1,la 9 2 8,fa 10 1 2,la 11 2 10,
 ca 12 208 556 [(t 5),(t 7),(t 9),(t 11)],mv 3 12]
  .ret))
def I6:aD:=⟨2,13,[],[.tmp 3],I5,none⟩
def I7:an:=
  (sr [od 4 (.new 80 2 (t 0)),od 5 (.new 96 2 (t 1)),od 6 (.new 112 2 (t 2)),od 7 (.new 128 2 (t 3)),
 od 8 (.move (.const (.bool false)))]
  (sr [la 9 2 4,la 10 2 5,la 11 2 6,la 12 2 7,
 od 13 (.buildSlice 224 2 (.agg [i0,i0]) 4 [(0,(t 9)),(1,(t 10)),(2,(t 11)),(3,(t 12))]),ca 14 240 181 [(t 13)],mv 15 14,og 16 (.load true 2 (t 4)) 15 true,
 og 17 (.load true 2 (t 5)) 15 true,og 18 (.load true 2 (t 6)) 15 true,og 19 (.load true 2 (t 7)) 15 true,og 20 (.call 336 false (fc 565) [(t 16),(t 17),(t 18),(t 19)]) 15 true,
 od 21 (.pick (t 15) (t 20) (.const (.bool false))),mv 8 21]
  .ret))
def I8:aD:=⟨4,22,[],[.tmp 8],I7,none⟩
def Nk:an:=
 (sr [od 2 (.move (.const (.float 0)))]
 (sr [mv 3 0,ca 4 80 52 [(t 3)],mv 2 4]
 .ret))
def f41:aD:=⟨1,5,[],[.tmp 2],Nk,none⟩
abbrev Fq:an:=
  (sr [ls 9 8 7]
  (.seq (.cond (t 9)
  .skip
  (.exit 0))
  (.seq (.block 1 (sr [mv 10 8,mv 5 10]
  (sr [mv 11 1,mv 12 0,mv 13 5,od 14 (.indexAddr 4 (t 12) (t 13)),
 la 15 4 14,od 16 (.call 272 false (t 11) [(t 15)])]
  (.cond (t 16)
  (sr [mv 17 5,mv 4 17]
  .ret)
  .skip))))
  (rn [ad 18 8 1,mv 8 18]))))
def I9:an:=
 (sr [mc 4 0]
 (.seq (sr [mv 6 0,ln 7 6,mc 8 0]
 (.block 0 (.loop Fq)))
 (sr [mc 4 (-1)]
 .ret)))
def Ja:aD:=⟨2,19,[],[.tmp 4],I9,none⟩
def Jb:an:=
  (sr [od 2 (.new 48 4 (t 0)),od 3 (.move (.const (.bool false)))]
  (sr [fa 4 0 2,ld 5 4,ld 6 1,od 7 (.bin .eql (t 5) (t 6)),
 mv 3 7]
  .ret))
def Jc:aD:=⟨2,8,[],[.tmp 3],Jb,none⟩
abbrev Fs:an:=
  (.block 1 (sr [mv 21 2,mv 22 1,od 23 (.bin .sub (t 21) (t 22)),mv 12 23]
  (.seq (sr [mv 24 12,od 25 (.bin .leq (t 24) (ic 12))]
  (.cond (t 25)
  (sr [mv 26 0,mv 27 1,mv 28 2,mv 29 4,
 ca 30 496 567 [(t 26),(t 27),(t 28),(t 29)]]
  .ret)
  .skip))
  (.seq (sr [mv 31 3,eq 32 31 0]
  (.cond (t 32)
  (sr [mv 33 0,mv 34 1,mv 35 2,mv 36 4,
 ca 37 608 568 [(t 33),(t 34),(t 35),(t 36)]]
  .ret)
  .skip))
  (.seq (sr [mv 38 10,od 39 (.un .not (t 38))]
  (.cond (t 39)
  (sr [mv 40 0,mv 41 1,mv 42 2,mv 43 4,
 ca 44 720 569 [(t 40),(t 41),(t 42),(t 43)]]
  (rn [mv 45 3,od 46 (.bin .sub (t 45) (ic 1)),mv 3 46]))
  .skip))
  (sr [mv 48 0,mv 49 1,mv 50 2,mv 51 4,
 ca 52 848 570 [(t 48),(t 49),(t 50),(t 51)],mv 47 52,xt 53 47 0,xt 54 47 1,
 mv 13 53,mv 14 54]
  (.seq (sr [mv 55 14,eq 56 55 2]
  (.cond (t 56)
  (sr [mv 57 0,mv 58 1,mv 59 2,mv 60 4,
 ca 61 992 571 [(t 57),(t 58),(t 59),(t 60)]]
  (sr [mv 62 2,od 63 (.bin .sub (t 62) (ic 1)),mv 64 13,mv 65 1,
 od 66 (.bin .sub (t 64) (t 65)),od 67 (.bin .sub (t 63) (t 66)),mv 13 67]
  (rn [mc 14 1])))
  .skip))
  (.seq (sr [mv 68 10,mv 69 68,og 70 (.move (t 11)) 69 true,od 71 (.pick (t 69) (t 70) (.const (.bool false))),
 mv 72 71,og 73 (.move (t 14)) 72 true,og 74 (.bin .eql (t 73) (ic 1)) 72 true,od 75 (.pick (t 72) (t 74) (.const (.bool false)))]
  (.cond (t 75)
  (sr [mv 76 0,mv 77 1,mv 78 2,mv 79 4,
 ca 80 1296 572 [(t 76),(t 77),(t 78),(t 79)]]
  (.cond (t 80)
  .ret
  .skip))
  .skip))
  (.seq (.seq (.drawn [mv 81 1,op 82 (.bin .gtr (t 81) (ic 0)) [0],op 83 (.move (t 82)) [1],⟨some 84,.move (t 4),some (83,true),[2]⟩,
 ⟨some 85,.move (t 0),some (83,true),[2]⟩,⟨some 86,.move (t 1),some (83,true),[2]⟩,⟨some 87,.bin .sub (t 86) (ic 1),some (83,true),[5,2]⟩,⟨some 88,.indexAddr 5 (t 85) (t 87),some (83,true),[4,6,2]⟩,
 ⟨some 89,.load true 5 (t 88),some (83,true),[7,2]⟩,⟨some 90,.move (t 0),some (83,true),[2]⟩,⟨some 91,.move (t 13),some (83,true),[2]⟩,⟨some 92,.indexAddr 5 (t 90) (t 91),some (83,true),[9,10,2]⟩,
 ⟨some 93,.load true 5 (t 92),some (83,true),[11,2]⟩,⟨some 94,.call 1520 false (t 84) [(t 89),(t 93)],some (83,true),[3,8,12,2,2]⟩,⟨some 95,.bin .lss (t 94) (ic 0),some (83,true),[13,2]⟩,⟨some 96,.un .not (t 95),some (83,true),[14,2]⟩,
 op 97 (.pick (t 83) (t 96) (.const (.bool false))) [2,15]])
  (.cond (t 97)
  (sr [mv 98 0,mv 99 1,mv 100 2,mv 101 13,
 mv 102 4,ca 103 1664 573 [(t 98),(t 99),(t 100),(t 101),(t 102)],mv 15 103]
  (sr [mv 104 15,mv 1 104]
  (.exit 1)))
  .skip))
  (sr [mv 106 0,mv 107 1,mv 108 2,mv 109 13,
 mv 110 4,ca 111 1792 574 [(t 106),(t 107),(t 108),(t 109),(t 110)],mv 105 111,xt 112 105 0,
 xt 113 105 1,mv 16 112,mv 17 113]
  (sr [mv 114 17,mv 11 114]
  (sr [mv 115 16,mv 116 1,od 117 (.bin .sub (t 115) (t 116)),mv 118 2,
 mv 119 16,od 120 (.bin .sub (t 118) (t 119)),mv 18 117,mv 19 120]
  (sr [mv 121 12,od 122 (.bin .quo (t 121) (ic 8)),mv 20 122]
  (sr [mv 123 18,mv 124 19,ls 125 123 124]
  (.cond (t 125)
  (sr [mv 126 18,mv 127 20,od 128 (.bin .geq (t 126) (t 127)),mv 10 128]
  (sr [mv 129 0,mv 130 1,mv 131 16,mv 132 3,
 mv 133 4,ca 134 2160 558 [(t 129),(t 130),(t 131),(t 132),(t 133)]]
  (rn [mv 135 16,ad 136 135 1,mv 1 136])))
  (sr [mv 137 19,mv 138 20,od 139 (.bin .geq (t 137) (t 138)),mv 10 139]
  (sr [mv 140 0,mv 141 16,ad 142 141 1,mv 143 2,
 mv 144 3,mv 145 4,ca 146 2352 558 [(t 140),(t 142),(t 143),(t 144),(t 145)]]
  (rn [mv 147 16,mv 2 147]))))))))))))))))))
def Jd:an:=
 (sr [od 10 (.move (.const (.bool true)))]
 (sr [od 11 (.move (.const (.bool true)))]
 (.block 0 (.loop Fs))))
def Nl:aD:=⟨5,148,[some 5,none,none,none,none],[],Jd,none⟩
def Nm:an:=
 (sr [mc 2 0]
 (.seq (.cond (.const (.bool false))
 (sr [mv 3 0,od 4 (.c8 .u32 (t 3)),ca 5 96 50 [(t 4)],mv 2 5]
 .ret)
 .skip)
 (sr [mv 6 0,ca 7 128 51 [(t 6)],mv 2 7]
 .ret)))
def f40:aD:=⟨1,8,[],[.tmp 2],Nm,none⟩
abbrev Je:an:=
 (sr [ls 9 8 7]
 (.seq (.cond (t 9)
 .skip
 (.exit 0))
 (.seq (.block 1 (sr [od 10 (.indexAddr 1 (t 6) (t 8)),ld 11 10,mv 5 11]
 (sr [mv 12 5,mv 13 3,od 14 (.bin .neq (t 12) (t 13))]
 (.cond (t 14)
 (sr [mv 15 5,mv 2 15]
 .ret)
 .skip))))
 (rn [ad 16 8 1,mv 8 16]))))
def Nn:an:=
 (sr [mc 2 0]
 (sr [mc 3 0]
 (.seq (sr [mv 6 0,ln 7 6,mc 8 0]
 (.block 0 (.loop Je)))
 (sr [mv 17 3,mv 2 17]
 .ret))))
def f22:aD:=⟨1,18,[],[.tmp 2],Nn,none⟩
def No:an:=
 (sr [mc 4 0]
 (sr [mv 7 0,ca 8 144 36 [(t 7)],mv 5 8]
 (sr [mv 9 1,ca 10 176 36 [(t 9)],mv 6 10]
 (.seq (sr [mv 11 5]
 (.cond (t 11)
 (.seq (sr [mv 12 6]
 (.cond (t 12)
 (sr [mc 4 0]
 .ret)
 .skip))
 (sr [mc 4 (-1)]
 .ret))
 .skip))
 (.seq (sr [mv 13 6]
 (.cond (t 13)
 (sr [mc 4 1]
 .ret)
 .skip))
 (.seq (sr [mv 14 0,mv 15 1,ls 16 14 15]
 (.cond (t 16)
 (sr [mc 4 (-1)]
 .ret)
 .skip))
 (.seq (sr [mv 17 0,mv 18 1,od 19 (.bin .gtr (t 17) (t 18))]
 (.cond (t 19)
 (sr [mc 4 1]
 .ret)
 .skip))
 (sr [mc 4 0]
 .ret))))))))
def f23:aD:=⟨2,20,[],[.tmp 4],No,none⟩
def Jf:an:=
  (sr [od 10 (.b7 177 4)]
  (.seq (sr [mv 12 2,mv 13 3,od 14 (.bin .eql (t 12) (t 13))]
  (.cond (t 14)
  (sr [mv 15 0,mv 10 15]
  .ret)
  .skip))
  (sr [mv 16 0,ln 17 16,ad 18 17 1,mv 19 1,
 mv 20 2,mv 21 3,od 22 (.build [i0,.lit 2 [],i0,i0] [(0,1,(t 18)),(1,1,(t 19)),(2,1,(t 20)),(3,1,(t 21))]),od 11 (.new 192 4 (.const (.agg [i0,.lit 2 [],i0,i0]))),
 ow (.store true 4 (t 11) (t 22))]
  (.seq (sr [mv 23 4,ca 24 400 85 [(t 23),(ic 2)],eq 25 24 1]
  (.cond (t 25)
  (rn [la 26 4 11,ca 27 448 131 [(t 26)],ow (.store true 4 (t 11) (t 27))])
  .skip))
  (sr [mv 28 0,la 29 4 11,od 30 (.buildSlice 496 4 (.agg [i0,.nils,i0,i0]) 1 [(0,(t 29))]),od 31 (.append 17 4 2872193639704 (t 28) (t 30)),
 mv 10 31]
  .ret)))))
def f113:aD:=⟨5,32,[some 4,none,none,none,some 2],[.tmp 10],Jf,none⟩
abbrev Ft:an:=
  (.seq (sr [mv 20 10,mv 21 8,od 22 (.bin .leq (t 20) (t 21))]
  (.cond (t 22)
  .skip
  (.exit 0)))
  (.seq (.block 1 (.seq (.drawn [fa 25 0 3,op 26 (.load false 1 (t 25)) [0],fa 27 0 9,op 28 (.load false 1 (t 27)) [2],
 mv 29 10,op 30 (.bin .mul (t 28) (t 29)) [3,4],mv 31 8,op 32 (.bin .add (t 31) (ic 1)) [6],
 op 33 (.bin .quo (t 30) (t 32)) [5,7],op 34 (.bin .add (t 26) (t 33)) [1,8],fa 35 1 3,op 36 (.load false 1 (t 35)) [10],
 fa 37 1 9,op 38 (.load false 1 (t 37)) [12],mv 39 10,op 40 (.bin .mul (t 38) (t 39)) [13,14],
 mv 41 8,op 42 (.bin .add (t 41) (ic 1)) [16],op 43 (.bin .quo (t 40) (t 42)) [15,17],op 44 (.bin .add (t 36) (t 43)) [11,18],
 op 45 (.build [i0,i0] [(0,1,(t 34)),(1,1,(t 44))]) [9,19],od 11 (.new 192 2 (.const (.agg [i0,i0]))),⟨none,.store true 2 (t 11) (t 45),none,([21,20]++rg 22)⟩])
  (sr [mv 46 2,ca 47 768 85 [(t 46),(ic 21)],od 48 (.bin .sub (t 47) (ic 10)),mv 49 8,
 od 50 (.bin .quo (t 49) (ic 2)),od 51 (.bin .add (ic 1) (t 50)),od 52 (.bin .quo (t 48) (t 51)),mv 12 52]
  (.seq (sr [fa 53 0 9,ld 54 53,fa 55 1 9,ld 56 55,
 od 57 (.bin .gtr (t 54) (t 56))]
  (.cond (t 57)
  (rn [fa 58 1 11,ld 59 58,mv 60 12,od 61 (.bin .add (t 59) (t 60)),
 fa 62 1 11,ow (.store false 1 (t 62) (t 61))])
  (rn [fa 63 0 11,ld 64 63,mv 65 12,od 66 (.bin .add (t 64) (t 65)),
 fa 67 0 11,ow (.store false 1 (t 67) (t 66))])))
  (rn [mv 68 7,la 69 2 11,od 70 (.buildSlice 1136 2 (.agg [i0,i0]) 1 [(0,(t 69))]),od 71 (.append 129 2 8278675785407 (t 68) (t 70)),
 od 7 (.nk 129 (t 71))])))))
  (rn [mv 23 10,ad 24 23 1,mv 10 24])))
def Jg:an:=
  (sr [od 3 (.new 64 2 (t 0)),od 4 (.new 80 2 (t 1)),od 6 (.move (.const (.lit 2 [])))]
  (sr [la 13 2 3,od 14 (.buildSlice 240 2 (.agg [i0,i0]) 1 [(0,(t 13))]),od 7 (.nk 129 (t 14))]
  (sr [mv 15 2,ca 16 272 85 [(t 15),(ic 4)],mv 8 16]
  (sr [la 17 2 4,la 18 2 3,ca 19 320 161 [(t 17),(t 18)],od 9 (.new 160 2 (.const (.agg [i0,i0]))),
 ow (.store true 2 (t 9) (t 19))]
  (.seq (sr [mc 10 1]
  (.block 0 (.loop Ft)))
  (sr [mv 72 7,la 73 2 4,od 74 (.buildSlice 1200 2 (.agg [i0,i0]) 1 [(0,(t 73))]),od 75 (.append 129 2 8278675785407 (t 72) (t 74)),
 mv 6 75]
  .ret))))))
def f114:aD:=⟨3,76,[none,none,some 2],[.tmp 6],Jg,none⟩
def Jh:an:=
  (sr [od 6 (.new 112 2 (.const (.agg [i0,i0])))]
  (sr [mv 10 2,od 11 (.bin .mul (ic 4) (t 10)),mv 12 1,od 13 (.bin .add (t 11) (t 12)),
 mv 7 13]
  (sr [mc 8 0]
  (sr [mc 9 0]
  (.seq (sr [mv 14 7,od 15 (.bin .mul (ic 2) (t 14)),ad 16 15 1,mv 17 0,
 ln 18 17,ls 19 16 18]
  (.cond (t 19)
  (sr [mv 20 0,mv 21 7,od 22 (.bin .mul (ic 2) (t 21)),od 23 (.indexAddr 1 (t 20) (t 22)),
 ld 24 23,ca 25 416 93 [(t 24),(ic 21)],od 26 (.bin .sub (t 25) (ic 10)),mv 8 26]
  (rn [mv 27 0,mv 28 7,od 29 (.bin .mul (ic 2) (t 28)),ad 30 29 1,
 od 31 (.indexAddr 1 (t 27) (t 30)),ld 32 31,ca 33 544 93 [(t 32),(ic 21)],od 34 (.bin .sub (t 33) (ic 10)),
 mv 9 34]))
  .skip))
  (sr [mv 35 1,od 36 (.bin .mul (ic 100) (t 35)),od 37 (.bin .add (ic 40) (t 36)),mv 38 8,
 od 39 (.bin .add (t 37) (t 38)),mv 40 2,od 41 (.bin .mul (ic 100) (t 40)),od 42 (.bin .add (ic 40) (t 41)),
 mv 43 9,od 44 (.bin .add (t 42) (t 43)),od 45 (.build [i0,i0] [(0,1,(t 39)),(1,1,(t 44))]),ow (.store true 2 (t 6) (t 45))]
  .ret))))))
def f115:aD:=⟨3,46,[],[.cell 6 true 2],Jh,none⟩
def Ji:an:=
  (sr [od 5 (.new 96 6 (t 0)),mc 10 0]
  (.seq (sr [mv 11 3,od 12 (.bin .lss (t 11) (ic 0)),mv 13 12,og 14 (.move (t 4)) 13 false,
 og 15 (.bin .lss (t 14) (ic 0)) 13 false,od 16 (.pick (t 13) (.const (.bool true)) (t 15)),mv 17 16,og 18 (.move (t 3)) 17 false,
 og 19 (.move (t 1)) 17 false,og 20 (.bin .geq (t 18) (t 19)) 17 false,od 21 (.pick (t 17) (.const (.bool true)) (t 20)),mv 22 21,
 og 23 (.move (t 4)) 22 false,og 24 (.move (t 2)) 22 false,og 25 (.bin .geq (t 23) (t 24)) 22 false,od 26 (.pick (t 22) (.const (.bool true)) (t 25))]
  (.cond (t 26)
  (sr [mc 10 0]
  .ret)
  .skip))
  (sr [mv 27 3,mv 28 4,od 29 (.aW 3 2 (t 5) (t 27)),od 30 (.aW 2 1 (t 29) (t 28)),
 ld 31 30,mv 10 31]
  .ret)))
def f116:aD:=⟨5,32,[],[.tmp 10],Ji,none⟩
def Jj:an:=
  (sr [od 5 (.new 96 2 (t 1)),od 8 (.move (.const (.lit 4 [])))]
  (sr [mv 11 3,ca 12 208 85 [(t 11),(ic 8)],od 13 (.bin .add (ic 6) (t 12)),mv 9 13]
  (sr [fa 14 0 5,ld 15 14,mv 16 9,od 17 (.bin .sub (t 15) (t 16)),
 fa 18 1 5,ld 19 18,mv 20 9,od 21 (.bin .sub (t 19) (t 20)),
 od 22 (.build [i0,i0] [(0,1,(t 17)),(1,1,(t 21))]),fa 23 0 5,ld 24 23,mv 25 9,
 od 26 (.bin .add (t 24) (t 25)),fa 27 1 5,ld 28 27,mv 29 9,
 od 30 (.bin .sub (t 28) (t 29)),od 31 (.build [i0,i0] [(0,1,(t 26)),(1,1,(t 30))]),fa 32 0 5,ld 33 32,
 mv 34 9,od 35 (.bin .add (t 33) (t 34)),fa 36 1 5,ld 37 36,
 mv 38 9,od 39 (.bin .add (t 37) (t 38)),od 40 (.build [i0,i0] [(0,1,(t 35)),(1,1,(t 39))]),fa 41 0 5,
 ld 42 41,mv 43 9,od 44 (.bin .sub (t 42) (t 43)),fa 45 1 5,
 ld 46 45,mv 47 9,od 48 (.bin .sub (t 46) (t 47)),od 49 (.build [i0,i0] [(0,1,(t 44)),(1,1,(t 48))]),
 od 50 (.buildSlice 816 2 (.agg [i0,i0]) 4 [(0,(t 22)),(1,(t 31)),(2,(t 40)),(3,(t 49))]),od 10 (.nk 177 (t 50))]
  (.seq (sr [mv 51 3,ca 52 848 85 [(t 51),(ic 2)],eq 53 52 1]
  (.cond (t 53)
  (rn [fa 54 0 5,ld 55 54,mv 56 9,od 57 (.bin .sub (t 55) (t 56)),
 fa 58 1 5,ld 59 58,od 60 (.build [i0,i0] [(0,1,(t 57)),(1,1,(t 59))]),fa 61 0 5,
 ld 62 61,fa 63 1 5,ld 64 63,mv 65 9,
 od 66 (.bin .sub (t 64) (t 65)),od 67 (.build [i0,i0] [(0,1,(t 62)),(1,1,(t 66))]),fa 68 0 5,ld 69 68,
 mv 70 9,od 71 (.bin .add (t 69) (t 70)),fa 72 1 5,ld 73 72,
 ad 74 73 2,od 75 (.build [i0,i0] [(0,1,(t 71)),(1,1,(t 74))]),fa 76 0 5,ld 77 76,
 fa 78 1 5,ld 79 78,mv 80 9,od 81 (.bin .add (t 79) (t 80)),
 od 82 (.build [i0,i0] [(0,1,(t 77)),(1,1,(t 81))]),fa 83 0 5,ld 84 83,mv 85 9,
 od 86 (.bin .sub (t 84) (t 85)),fa 87 1 5,ld 88 87,od 89 (.build [i0,i0] [(0,1,(t 86)),(1,1,(t 88))]),
 od 90 (.buildSlice 1456 2 (.agg [i0,i0]) 5 [(0,(t 60)),(1,(t 67)),(2,(t 75)),(3,(t 82)),(4,(t 89))]),od 10 (.nk 177 (t 90))])
  .skip))
  (sr [mv 91 0,mv 92 10,mv 93 2,mv 94 3,
 od 95 (.call 1536 true (fc 113) [(t 91),(t 92),(ic 28),(t 93),(t 94)]),mv 8 95]
  .ret)))))
def f117:aD:=⟨4,96,[some 4,none,none,some 2],[.tmp 8],Jj,none⟩
abbrev Fu:an:=
  (.seq (sr [mv 7 4,mv 8 0,ln 9 8,ls 10 7 9]
  (.cond (t 10)
  .skip
  (.exit 0)))
  (.seq (.block 1 (.seq (sr [mv 13 0,mv 14 4,od 15 (.indexAddr 4 (t 13) (t 14)),fa 16 2 15,
 ld 17 16,od 18 (.bin .neq (t 17) (ic 0))]
  (.cond (t 18)
  (rn [mv 19 3,mv 20 0,mv 21 4,od 22 (.indexAddr 4 (t 20) (t 21)),
 fa 23 2 22,ld 24 23,ca 25 416 162 [(t 19),(t 24)],od 3 (.nk 65 (t 25))])
  .skip))
  (sr [mv 26 0,mv 27 4,od 28 (.indexAddr 4 (t 26) (t 27)),fa 29 3 28,
 ld 30 29,od 31 (.bin .neq (t 30) (ic 0))]
  (.cond (t 31)
  (rn [mv 32 3,mv 33 0,mv 34 4,od 35 (.indexAddr 4 (t 33) (t 34)),
 fa 36 3 35,ld 37 36,ca 38 624 162 [(t 32),(t 37)],od 3 (.nk 65 (t 38))])
  .skip))))
  (rn [mv 11 4,ad 12 11 1,mv 4 12])))
abbrev Fv:an:=
  (.seq (sr [mv 39 6,mv 40 3,ln 41 40,ls 42 39 41]
  (.cond (t 42)
  .skip
  (.exit 2)))
  (.seq (.block 3 (rn [mv 45 5,mv 46 3,mv 47 6,od 48 (.indexAddr 1 (t 46) (t 47)),
 ld 49 48,od 50 (.build [i0,.str [],.str [],i0,i0] [(0,1,(t 49))]),od 51 (.buildSlice 832 5 (.agg [i0,.str [],.str [],i0,i0]) 1 [(0,(t 50))]),od 52 (.append 97 5 2469078742875 (t 45) (t 51)),
 od 5 (.nk 97 (t 52))]))
  (rn [mv 43 6,ad 44 43 1,mv 6 44])))
def Jk:an:=
 (sr [od 2 (.b7 49 5)]
 (sr [od 3 (.move (.const (.lit 1 [])))]
 (.seq (sr [mc 4 0]
 (.block 0 (.loop Fu)))
 (sr [od 5 (.b7 97 5)]
 (.seq (sr [mc 6 0]
 (.block 2 (.loop Fv)))
 (sr [mv 53 5,mv 2 53]
 .ret))))))
def f118:aD:=⟨1,54,[],[.tmp 2],Jk,none⟩
abbrev Fw:an:=
  (.seq (sr [mv 25 13,mv 26 12,od 27 (.bin .leq (t 25) (t 26))]
  (.cond (t 27)
  .skip
  (.exit 0)))
  (.seq (.block 1 (.seq (.drawn [fa 30 0 6,op 31 (.load false 1 (t 30)) [0],fa 32 0 7,op 33 (.load false 1 (t 32)) [2],
 fa 34 0 6,op 35 (.load false 1 (t 34)) [4],op 36 (.bin .sub (t 33) (t 35)) [3,5],mv 37 13,
 op 38 (.bin .mul (t 36) (t 37)) [6,7],mv 39 12,op 40 (.bin .add (t 39) (ic 1)) [9],op 41 (.bin .quo (t 38) (t 40)) [8,10],
 op 42 (.bin .add (t 31) (t 41)) [1,11],fa 43 1 6,op 44 (.load false 1 (t 43)) [13],fa 45 1 7,
 op 46 (.load false 1 (t 45)) [15],fa 47 1 6,op 48 (.load false 1 (t 47)) [17],op 49 (.bin .sub (t 46) (t 48)) [16,18],
 mv 50 13,op 51 (.bin .mul (t 49) (t 50)) [19,20],mv 52 12,op 53 (.bin .add (t 52) (ic 1)) [22],
 op 54 (.bin .quo (t 51) (t 53)) [21,23],op 55 (.bin .add (t 44) (t 54)) [14,24],op 56 (.build [i0,i0] [(0,1,(t 42)),(1,1,(t 55))]) [12,25],od 14 (.new 240 2 (.const (.agg [i0,i0]))),
 ⟨none,.store true 2 (t 14) (t 56),none,([27,26]++rg 28)⟩])
  (sr [mv 57 4,ca 58 944 85 [(t 57),(ic 17)],od 59 (.bin .sub (t 58) (ic 8)),mv 15 59]
  (.seq (sr [fa 60 1 6,ld 61 60,fa 62 1 7,ld 63 62,
 od 64 (.bin .eql (t 61) (t 63))]
  (.cond (t 64)
  (rn [fa 65 1 14,ld 66 65,mv 67 15,od 68 (.bin .add (t 66) (t 67)),
 fa 69 1 14,ow (.store false 1 (t 69) (t 68))])
  .skip))
  (.seq (sr [fa 70 0 6,ld 71 70,fa 72 0 7,ld 73 72,
 od 74 (.bin .eql (t 71) (t 73))]
  (.cond (t 74)
  (rn [fa 75 0 14,ld 76 75,mv 77 15,od 78 (.bin .add (t 76) (t 77)),
 fa 79 0 14,ow (.store false 1 (t 79) (t 78))])
  .skip))
  (rn [fa 80 1 11,ld 81 80,la 82 2 14,od 83 (.buildSlice 1344 2 (.agg [i0,i0]) 1 [(0,(t 82))]),
 od 84 (.append 195 2 8278675785407 (t 81) (t 83)),fa 85 1 11,ow (.store false 1 (t 85) (t 84))]))))))
  (rn [mv 28 13,ad 29 28 1,mv 13 29])))
def Jl:an:=
  (sr [od 6 (.new 112 2 (t 1)),od 7 (.new 128 2 (t 2)),od 10 (.move (.const (.lit 8 [])))]
  (sr [mv 16 0,ln 17 16,od 18 (.bin .add (ic 41) (t 17)),mv 19 3,
 la 20 2 6,od 21 (.buildSlice 352 2 (.agg [i0,i0]) 1 [(0,(t 20))]),od 22 (.build [i0,.nils,i0,.str [],.str [],.bool false,i0,i0] [(0,1,(t 18)),(2,1,(t 19)),(1,1,(t 21))]),od 11 (.new 192 8 (.const (.agg [i0,.nils,i0,.str [],.str [],.bool false,i0,i0]))),
 ow (.store true 8 (t 11) (t 22))]
  (sr [mv 23 4,ca 24 400 85 [(t 23),(ic 3)],mv 12 24]
  (.seq (sr [mc 13 1]
  (.block 0 (.loop Fw)))
  (sr [fa 86 1 11,ld 87 86,la 88 2 7,od 89 (.buildSlice 1440 2 (.agg [i0,i0]) 1 [(0,(t 88))]),
 od 90 (.append 195 2 8278675785407 (t 87) (t 89)),fa 91 1 11,ow (.store false 1 (t 91) (t 90))]
  (sr [od 92 (.buildSlice 1488 1 (.str []) 2 [(0,(.const (.str [112,97,116,104]))),(1,(.const (.str [114,111,97,100])))]),mv 93 4,ca 94 1520 85 [(t 93),(ic 2)],od 95 (.indexAddr 1 (t 92) (t 94)),
 ld 96 95,fa 97 3 11,ow (.store false 1 (t 97) (t 96))]
  (sr [od 98 (.buildSlice 1584 1 (.str []) 4 [(0,(.const (.str []))),(1,(.const (.str []))),(2,(.const (.str [82,105,110,103]))),(3,(.const (.str [79,108,100,32,87,97,121])))]),mv 99 4,ca 100 1616 85 [(t 99),(ic 4)],od 101 (.indexAddr 1 (t 98) (t 100)),
 ld 102 101,fa 103 4 11,ow (.store false 1 (t 103) (t 102))]
  (sr [mv 104 4,ca 105 1696 85 [(t 104),(ic 4)],eq 106 105 0,fa 107 5 11,
 ow (.store false 1 (t 107) (t 106))]
  (sr [mv 108 4,ca 109 1760 85 [(t 108),(ic 60)],od 110 (.bin .add (ic 1) (t 109)),fa 111 6 11,
 ow (.store false 1 (t 111) (t 110))]
  (sr [mv 112 4,ca 113 1824 85 [(t 112),(ic 3)],mv 114 4,ca 115 1856 85 [(t 114),(ic 2)],
 od 116 (.bin .mul (t 113) (t 115)),od 117 (.bin .add (ic 1) (t 116)),fa 118 7 11,ow (.store false 1 (t 118) (t 117))]
  (sr [mv 119 0,la 120 8 11,od 121 (.buildSlice 1952 8 (.agg [i0,.nils,i0,.str [],.str [],.bool false,i0,i0]) 1 [(0,(t 120))]),od 122 (.append 17 8 1450901941607 (t 119) (t 121)),
 mv 10 122]
  .ret)))))))))))
def f119:aD:=⟨5,123,[some 8,none,none,none,some 2],[.tmp 10],Jl,none⟩
def Jm:an:=
  (sr [od 4 (.new 80 2 (.const (.agg [i0,i0])))]
  (sr [mv 5 0,od 6 (.bin .mul (ic 80) (t 5)),od 7 (.bin .add (ic 55) (t 6)),mv 8 1,
 od 9 (.bin .mul (ic 70) (t 8)),od 10 (.bin .add (ic 65) (t 9)),od 11 (.build [i0,i0] [(0,1,(t 7)),(1,1,(t 10))]),ow (.store true 2 (t 4) (t 11))]
  .ret))
def f120:aD:=⟨2,12,[],[.cell 4 true 2],Jm,none⟩
def Jn:an:=
  (sr [od 3 (.new 64 2 (t 1)),mc 4 0,od 5 (.move (.const (.bool false)))]
  (.seq (.drawn [mv 6 0,op 7 (.call 128 false (fc 164) [(t 6)]) [0],la 8 2 3,op 9 (.call 160 false (fc 163) [(t 7),(t 8)]) [1,2,1],
 op 10 (.extract (t 9) 0) [3],op 11 (.extract (t 9) 1) [3],op 4 (.move (t 10)) ([4,3]++rg 6),op 5 (.move (t 11)) ([5,6]++rg 7)])
  .ret))
def f121:aD:=⟨2,12,[],[.tmp 4,.tmp 5],Jn,none⟩
abbrev Fy:an:=
  (.seq (sr [mv 6 5,fa 7 1 2,ld 8 7,ln 9 8,
 ls 10 6 9]
  (.cond (t 10)
  .skip
  (.exit 0)))
  (.seq (.block 1 (sr [fa 13 1 2,ld 14 13,mv 15 5,od 16 (.indexAddr 5 (t 14) (t 15)),
 fa 17 0 16,ld 18 17,mv 19 1,od 20 (.bin .eql (t 18) (t 19))]
  (.cond (t 20)
  (sr [fa 21 1 2,ld 22 21,mv 23 5,od 24 (.indexAddr 5 (t 22) (t 23)),
 fa 25 4 24,ld 26 25,mv 4 26]
  .ret)
  .skip)))
  (rn [mv 11 5,ad 12 11 1,mv 5 12])))
def Jo:an:=
 (sr [od 2 (.new 48 4 (t 0)),mc 4 0]
 (.seq (sr [mc 5 0]
 (.block 0 (.loop Fy)))
 (sr [mc 4 0]
 .ret)))
def f122:aD:=⟨2,27,[],[.tmp 4],Jo,none⟩
def Jp:an:=
  (sr [od 4 (.move (.const (.bool false)))]
  (sr [mv 5 0,mv 6 1,ca 7 128 224 [(t 5),(t 6)],od 8 (.bin .geq (t 7) (ic 0)),
 mv 4 8]
  .ret))
def f187:aD:=⟨2,9,[],[.tmp 4],Jp,none⟩
def Jq:an:=
 (sr [od 1 (.new 32 2 (t 0)),od 2 (.move (.const (.bool false)))]
 (sr [la 3 2 1,ca 4 80 189 [(t 3)],od 5 (.un .not (t 4)),mv 2 5]
 .ret))
def Jr:aD:=⟨1,6,[],[.tmp 2],Jq,none⟩
def Js:an:=
  (sr [od 1 (.new 32 2 (t 0)),od 2 (.move (.const (.bool false)))]
  (sr [fa 3 0 1,ld 4 3,fa 5 1 1,ld 6 5,
 od 7 (.buildSlice 128 1 (i0) 2 [(0,(t 4)),(1,(t 6))]),ca 8 144 227 [(ic 16384),(t 7)],mv 2 8]
  .ret))
def f189:aD:=⟨1,9,[],[.tmp 2],Js,none⟩
def Jt:an:=
  (sr [od 4 (.new 80 2 (t 0)),od 5 (.new 96 2 (t 1)),od 6 (.new 112 2 (t 2)),od 7 (.new 128 2 (t 3)),
 mc 8 0]
  (.seq (sr [la 15 2 4,la 16 2 5,la 17 2 6,la 18 2 7,
 od 19 (.buildSlice 320 2 (.agg [i0,i0]) 4 [(0,(t 15)),(1,(t 16)),(2,(t 17)),(3,(t 18))]),ca 20 336 251 [(t 19)],od 21 (.un .not (t 20))]
  (.cond (t 21)
  (sr [mc 8 0]
  .ret)
  .skip))
  (.seq (.drawn [la 22 2 4,la 23 2 5,la 24 2 6,op 25 (.call 416 false (fc 252) [(t 22),(t 23),(t 24)]) [0,1,2],
 la 26 2 4,la 27 2 5,la 28 2 7,op 29 (.call 480 false (fc 252) [(t 26),(t 27),(t 28)]) [4,5,6,3],
 op 30 (.build [i0,i0] [(0,1,(t 25)),(1,1,(t 29))]) [3,7],la 31 2 6,la 32 2 7,la 33 2 4,
 op 34 (.call 560 false (fc 252) [(t 31),(t 32),(t 33)]) [9,10,11,7],la 35 2 6,la 36 2 7,la 37 2 5,
 op 38 (.call 624 false (fc 252) [(t 35),(t 36),(t 37)]) [13,14,15,12],op 39 (.build [i0,i0] [(0,1,(t 34)),(1,1,(t 38))]) [12,16],od 9 (.new 160 2 (.const (.agg [i0,i0]))),od 10 (.new 176 2 (.const (.agg [i0,i0]))),
 ⟨none,.store true 2 (t 9) (t 30),none,[18,8,16,0,1,2,3,4,5,6,7,8,18,19]⟩,⟨none,.store true 2 (t 10) (t 39),none,([19,17,20]++rg 21)⟩])
  (.seq (sr [la 40 2 9,od 41 (.build [i0,i0] []),od 42 (.yy true [1,1] (t 40) (t 41)),mv 43 42,
 og 44 (.load true 2 (t 10)) 43 false,og 45 (.build [i0,i0] []) 43 false,og 46 (.yy true [1,1] (t 44) (t 45)) 43 false,od 47 (.pick (t 43) (.const (.bool true)) (t 46))]
  (.cond (t 47)
  (.seq (sr [od 48 (.aW 2 1 (t 9) (ic 0)),ld 49 48,od 50 (.aW 2 1 (t 9) (ic 1)),ld 51 50,
 od 52 (.bin .mul (t 49) (t 51)),od 53 (.bin .gtr (t 52) (ic 0)),mv 54 53,og 55 (.aW 2 1 (t 10) (ic 0)) 54 false,
 og 56 (.load false 1 (t 55)) 54 false,og 57 (.aW 2 1 (t 10) (ic 1)) 54 false,og 58 (.load false 1 (t 57)) 54 false,og 59 (.bin .mul (t 56) (t 58)) 54 false,
 og 60 (.bin .gtr (t 59) (ic 0)) 54 false,od 61 (.pick (t 54) (.const (.bool true)) (t 60))]
  (.cond (t 61)
  (sr [mc 8 0]
  .ret)
  .skip))
  (sr [mc 8 1]
  .ret))
  .skip))
  (sr [la 62 2 4,la 63 2 5,od 64 (.buildSlice 1040 2 (.agg [i0,i0]) 2 [(0,(t 62)),(1,(t 63))]),od 11 (.nk 193 (t 64))]
  (sr [la 65 2 6,la 66 2 7,od 67 (.buildSlice 1088 2 (.agg [i0,i0]) 2 [(0,(t 65)),(1,(t 66))]),od 12 (.nk 209 (t 67))]
  (sr [mv 68 11,ca 69 1120 253 [(t 68),(fc 254)]]
  (sr [mv 70 12,ca 71 1152 253 [(t 70),(fc 254)]]
  (.seq (.drawn [mv 72 11,op 73 (.indexAddr 2 (t 72) (ic 0)) [0],op 74 (.load true 2 (t 73)) [1],mv 75 12,
 op 76 (.indexAddr 2 (t 75) (ic 0)) [3],op 77 (.load true 2 (t 76)) [4],op 78 (.buildSlice 1264 2 (.agg [i0,i0]) 2 [(0,(t 74)),(1,(t 77))]) [2,5],op 79 (.call 1280 false (fc 255) [(t 78),(fc 254)]) [6],
 od 13 (.new 224 2 (.const (.agg [i0,i0]))),⟨none,.store true 2 (t 13) (t 79),none,([8,7,7]++rg 9)⟩])
  (.seq (.drawn [mv 80 11,op 81 (.indexAddr 2 (t 80) (ic 1)) [0],op 82 (.load true 2 (t 81)) [1],mv 83 12,
 op 84 (.indexAddr 2 (t 83) (ic 1)) [3],op 85 (.load true 2 (t 84)) [4],op 86 (.buildSlice 1392 2 (.agg [i0,i0]) 2 [(0,(t 82)),(1,(t 85))]) [2,5],op 87 (.call 1408 false (fc 175) [(t 86),(fc 254)]) [6],
 od 14 (.new 240 2 (.const (.agg [i0,i0]))),⟨none,.store true 2 (t 14) (t 87),none,([8,7,7]++rg 9)⟩])
  (sr [la 88 2 14,la 89 2 13,ca 90 1456 254 [(t 88),(t 89)],od 91 (.max [(t 90),(ic (-1))]),
 od 92 (.min [(t 91),(ic 1)]),od 93 (.bin .add (ic 1) (t 92)),mv 8 93]
  .ret)))))))))))
def Ju:aD:=⟨4,94,[],[.tmp 8],Jt,none⟩
def Jv:an:=
  (sr [od 4 (.new 80 2 (t 0)),od 5 (.new 96 2 (t 1)),od 6 (.new 112 2 (t 2)),od 7 (.new 128 2 (t 3)),
 od 8 (.move (.const (.bool false)))]
  (.seq (sr [la 10 2 4,la 11 2 5,la 12 2 6,ca 13 224 252 [(t 10),(t 11),(t 12)],
 eq 14 13 0]
  (.cond (t 14)
  (sr [la 15 2 4,la 16 2 5,la 17 2 7,ca 18 304 223 [(t 15),(t 16),(t 17)],
 mv 19 18,og 20 (.load true 2 (t 5)) 19 false,og 21 (.load true 2 (t 6)) 19 false,og 22 (.load true 2 (t 7)) 19 false,
 og 23 (.call 384 false (fc 223) [(t 20),(t 21),(t 22)]) 19 false,od 24 (.pick (t 19) (.const (.bool true)) (t 23)),mv 25 24,og 26 (.load true 2 (t 6)) 25 false,
 og 27 (.load true 2 (t 4)) 25 false,og 28 (.load true 2 (t 7)) 25 false,og 29 (.call 480 false (fc 223) [(t 26),(t 27),(t 28)]) 25 false,od 30 (.pick (t 25) (.const (.bool true)) (t 29)),
 mv 8 30]
  .ret)
  .skip))
  (.seq (.drawn [la 31 2 4,la 32 2 5,la 33 2 7,op 34 (.call 560 false (fc 252) [(t 31),(t 32),(t 33)]) [0,1,2],
 la 35 2 5,la 36 2 6,la 37 2 7,op 38 (.call 624 false (fc 252) [(t 35),(t 36),(t 37)]) [4,5,6,3],
 la 39 2 6,la 40 2 4,la 41 2 7,op 42 (.call 688 false (fc 252) [(t 39),(t 40),(t 41)]) [8,9,10,7],
 op 43 (.buildSlice 704 1 (i0) 3 [(0,(t 34)),(1,(t 38)),(2,(t 42))]) [3,7,11],op 9 (.nk 161 (t 43)) ([12,11]++rg 13)])
  (sr [mv 44 9,ca 45 736 429 [(t 44)],mv 46 9,ca 47 768 430 [(t 46)],
 od 48 (.bin .mul (t 45) (t 47)),od 49 (.bin .geq (t 48) (ic 0)),mv 8 49]
  .ret))))
def Jw:aD:=⟨4,50,[],[.tmp 8],Jv,none⟩
def Jy:an:=
  (sr [od 3 (.new 64 2 (t 0)),od 4 (.move (.const (.bool false)))]
  (sr [la 5 4 1,la 6 2 3,ca 7 128 186 [(t 5),(t 6)],mv 8 7,
 og 9 (.load true 4 (t 2)) 8 true,og 10 (.load true 2 (t 3)) 8 true,og 11 (.call 192 false (fc 186) [(t 9),(t 10)]) 8 true,od 12 (.pick (t 8) (t 11) (.const (.bool false))),
 mv 4 12]
  .ret))
def Jz:aD:=⟨3,13,[],[.tmp 4],Jy,none⟩
def JA:an:=
  (sr [od 2 (.new 48 4 (t 0)),od 3 (.new 64 2 (t 1)),od 4 (.move (.const (.bool false)))]
  (sr [fa 5 0 2,la 6 2 5,fa 7 2 2,la 8 2 7,
 la 9 2 3,ca 10 176 223 [(t 6),(t 8),(t 9)],mv 4 10]
  .ret))
def f186:aD:=⟨2,11,[],[.tmp 4],JA,none⟩
abbrev JB:an:=
  (sr [ls 9 8 7]
  (.seq (.cond (t 9)
  .skip
  (.exit 0))
  (.seq (.block 1 (sr [mv 10 8,mv 5 10]
  (sr [mv 11 1,mv 12 0,mv 13 5,od 14 (.indexAddr 7 (t 12) (t 13)),
 la 15 7 14,od 16 (.call 272 false (t 11) [(t 15)])]
  (.cond (t 16)
  (sr [mv 17 5,mv 4 17]
  .ret)
  .skip))))
  (rn [ad 18 8 1,mv 8 18]))))
def Np:an:=
 (sr [mc 4 0]
 (.seq (sr [mv 6 0,ln 7 6,mc 8 0]
 (.block 0 (.loop JB)))
 (sr [mc 4 (-1)]
 .ret)))
def f33:aD:=⟨2,19,[],[.tmp 4],Np,none⟩
abbrev Fz:an:=
  (.seq (.seq (.drawn [mv 18 9,mv 19 1,op 20 (.bin .gtr (t 18) (t 19)) [0,1],op 21 (.move (t 20)) [2],
 ⟨some 22,.move (t 3),some (21,true),[3]⟩,⟨some 23,.move (t 0),some (21,true),[3]⟩,⟨some 24,.move (t 9),some (21,true),[3]⟩,⟨some 25,.indexAddr 5 (t 23) (t 24),some (21,true),[5,6,3]⟩,
 ⟨some 26,.load true 5 (t 25),some (21,true),[7,3]⟩,⟨some 27,.move (t 0),some (21,true),[3]⟩,⟨some 28,.move (t 9),some (21,true),[3]⟩,⟨some 29,.bin .sub (t 28) (ic 1),some (21,true),[10,3]⟩,
 ⟨some 30,.indexAddr 5 (t 27) (t 29),some (21,true),[9,11,3]⟩,⟨some 31,.load true 5 (t 30),some (21,true),[12,3]⟩,⟨some 32,.call 528 false (t 22) [(t 26),(t 31)],some (21,true),[4,8,13,3,3]⟩,⟨some 33,.bin .lss (t 32) (ic 0),some (21,true),[14,3]⟩,
 op 34 (.pick (t 21) (t 33) (.const (.bool false))) [3,15]])
  (.cond (t 34)
  .skip
  (.exit 2)))
  (.seq (.block 3 (.drawn [mv 37 0,mv 38 9,mv 39 0,mv 40 9,
 op 41 (.bin .sub (t 40) (ic 1)) [3],mv 42 0,mv 43 9,op 44 (.bin .sub (t 43) (ic 1)) [6],
 op 45 (.indexAddr 5 (t 42) (t 44)) [5,7],op 46 (.load true 5 (t 45)) [8],mv 47 0,mv 48 9,
 op 49 (.indexAddr 5 (t 47) (t 48)) [10,11],op 50 (.load true 5 (t 49)) [12],op 51 (.indexAddr 5 (t 37) (t 38)) [0,1,0,1,5,6,7,8,9,13],⟨none,.store true 5 (t 51) (t 46),none,[14,9,0,1,5,6,7,8,9,13]⟩,
 op 52 (.indexAddr 5 (t 39) (t 41)) ([2,4]++rg 16),⟨none,.store true 5 (t 52) (t 50),none,([16,13,15]++rg 16)⟩]))
  (rn [mv 35 9,od 36 (.bin .sub (t 35) (ic 1)),mv 9 36])))
abbrev FA:an:=
 (.seq (sr [mv 12 8,mv 13 2,ls 14 12 13]
 (.cond (t 14)
 .skip
 (.exit 0)))
 (.seq (.block 1 (sr [mv 17 8,mv 9 17]
 (.block 2 (.loop Fz))))
 (rn [mv 15 8,ad 16 15 1,mv 8 16])))
def JC:an:=
 (sr [mv 10 1,ad 11 10 1,mv 8 11]
 (.block 0 (.loop FA)))
def Nq:aD:=⟨4,53,[some 5,none,none,none],[],JC,none⟩
def Nr:an:=
  (sr [mc 2 0]
  (.seq (sr [mv 3 0,od 4 (.bin .geq (t 3) (.const (.int .u32 65536)))]
  (.cond (t 4)
  (sr [mv 5 0,od 6 (.bin .shr (t 5) (.const (.int .u64 16))),mv 0 6]
  (rn [mc 2 16]))
  .skip))
  (.seq (sr [mv 7 0,od 8 (.bin .geq (t 7) (.const (.int .u32 256)))]
  (.cond (t 8)
  (sr [mv 9 0,od 10 (.bin .shr (t 9) (.const (.int .u64 8))),mv 0 10]
  (rn [mv 11 2,ad 12 11 8,mv 2 12]))
  .skip))
  (sr [mv 13 2,mv 14 0,od 15 (.c8 .u8 (t 14)),od 16 (.ib (.const (.str [0,1,2,2,3,3,3,3,4,4,4,4,4,4,4,4,5,5,5,5,5,5,5,5,5,5,5,5,5,5,5,5,6,6,6,6,6,6,6,6,6,6,6,6,6,6,6,6,6,6,6,6,6,6,6,6,6,6,6,6,6,6,6,6,7,7,7,7,7,7,7,7,7,7,7,7,7,7,7,7,7,7,7,7,7,7,7,7,7,7,7,7,7,7,7,7,7,7,7,7,7,7,7,7,7,7,7,7,7,7,7,7,7,7,7,7,7,7,7,7,7,7,7,7,7,7,7,7,8,8,8,8,8,8,8,8,8,8,8,8,8,8,8,8,8,8,8,8,8,8,8,8,8,8,8,8,8,8,8,8,8,8,8,8,8,8,8,8,8,8,8,8,8,8,8,8,8,8,8,8,8,8,8,8,8,8,8,8,8,8,8,8,8,8,8,8,8,8,8,8,8,8,8,8,8,8,8,8,8,8,8,8,8,8,8,8,8,8,8,8,8,8,8,8,8,8,8,8,8,8,8,8,8,8,8,8,8,8,8,8,8,8,8,8,8,8,8,8,8,8,8,8,8,8,8,8])) (t 15)),
 od 17 (.c8 .i64 (t 16)),od 18 (.bin .add (t 13) (t 17)),mv 2 18]
  .ret))))
def f50:aD:=⟨1,19,[],[.tmp 2],Nr,none⟩
def Ns:an:=
  (sr [mc 2 0]
  (.seq (sr [mv 3 0,od 4 (.bin .geq (t 3) (.const (.int .u64 4294967296)))]
  (.cond (t 4)
  (sr [mv 5 0,od 6 (.bin .shr (t 5) (.const (.int .u64 32))),mv 0 6]
  (rn [mc 2 32]))
  .skip))
  (.seq (sr [mv 7 0,od 8 (.bin .geq (t 7) (.const (.int .u64 65536)))]
  (.cond (t 8)
  (sr [mv 9 0,od 10 (.bin .shr (t 9) (.const (.int .u64 16))),mv 0 10]
  (rn [mv 11 2,ad 12 11 16,mv 2 12]))
  .skip))
  (.seq (sr [mv 13 0,od 14 (.bin .geq (t 13) (.const (.int .u64 256)))]
  (.cond (t 14)
  (sr [mv 15 0,od 16 (.bin .shr (t 15) (.const (.int .u64 8))),mv 0 16]
  (rn [mv 17 2,ad 18 17 8,mv 2 18]))
  .skip))
  (sr [mv 19 2,mv 20 0,od 21 (.c8 .u8 (t 20)),od 22 (.ib (.const (.str [0,1,2,2,3,3,3,3,4,4,4,4,4,4,4,4,5,5,5,5,5,5,5,5,5,5,5,5,5,5,5,5,6,6,6,6,6,6,6,6,6,6,6,6,6,6,6,6,6,6,6,6,6,6,6,6,6,6,6,6,6,6,6,6,7,7,7,7,7,7,7,7,7,7,7,7,7,7,7,7,7,7,7,7,7,7,7,7,7,7,7,7,7,7,7,7,7,7,7,7,7,7,7,7,7,7,7,7,7,7,7,7,7,7,7,7,7,7,7,7,7,7,7,7,7,7,7,7,8,8,8,8,8,8,8,8,8,8,8,8,8,8,8,8,8,8,8,8,8,8,8,8,8,8,8,8,8,8,8,8,8,8,8,8,8,8,8,8,8,8,8,8,8,8,8,8,8,8,8,8,8,8,8,8,8,8,8,8,8,8,8,8,8,8,8,8,8,8,8,8,8,8,8,8,8,8,8,8,8,8,8,8,8,8,8,8,8,8,8,8,8,8,8,8,8,8,8,8,8,8,8,8,8,8,8,8,8,8,8,8,8,8,8,8,8,8,8,8,8,8,8,8,8,8,8,8])) (t 21)),
 od 23 (.c8 .i64 (t 22)),od 24 (.bin .add (t 19) (t 23)),mv 2 24]
  .ret)))))
def f51:aD:=⟨1,25,[],[.tmp 2],Ns,none⟩
def Nt:an:=
 (sr [od 2 (.move (.const (.bool false)))]
 (sr [mv 3 0,mv 4 0,od 5 (.bin .neq (t 3) (t 4)),mv 2 5]
 .ret))
def f36:aD:=⟨1,6,[],[.tmp 2],Nt,none⟩
abbrev FB:an:=
  (.seq (sr [mv 9 5,od 10 (.bin .gtr (t 9) (ic 0)),mv 11 10,og 12 (.move (t 0)) 11 true,
 og 13 (.move (t 5)) 11 true,og 14 (.bin .sub (t 13) (ic 1)) 11 true,og 15 (.indexAddr 1 (t 12) (t 14)) 11 true,og 16 (.load false 1 (t 15)) 11 true,
 og 17 (.move (t 1)) 11 true,og 18 (.bin .geq (t 16) (t 17)) 11 true,od 19 (.pick (t 11) (t 18) (.const (.bool false)))]
  (.cond (t 19)
  .skip
  (.exit 0)))
  (.block 1 (rn [mv 20 5,od 21 (.bin .sub (t 20) (ic 1)),mv 5 21])))
def JD:an:=
  (sr [od 4 (.move (.const (.lit 1 [])))]
  (sr [mv 7 0,ln 8 7,mv 5 8]
  (.seq (.block 0 (.loop FB))
  (.seq (sr [mv 22 5,mv 23 0,ln 24 23,ls 25 22 24,
 mv 26 25,og 27 (.move (t 0)) 26 true,og 28 (.move (t 5)) 26 true,og 29 (.indexAddr 1 (t 27) (t 28)) 26 true,
 og 30 (.load false 1 (t 29)) 26 true,og 31 (.move (t 1)) 26 true,og 32 (.bin .eql (t 30) (t 31)) 26 true,od 33 (.pick (t 26) (t 32) (.const (.bool false)))]
  (.cond (t 33)
  (sr [mv 34 0,mv 4 34]
  .ret)
  .skip))
  (sr [od 35 (.buildSlice 576 1 (i0) 0 []),mv 36 0,mv 37 5,od 38 (.slice 1 (t 36) none (some (t 37)) none),
 od 39 (.append 640 1 15637498705947 (t 35) (t 38)),od 6 (.nk 113 (t 39))]
  (.seq (.drawn [mv 40 6,mv 41 1,op 42 (.buildSlice 688 1 (i0) 1 [(0,(t 41))]) [1],op 43 (.append 113 1 15637498705947 (t 40) (t 42)) [0,2],
 mv 44 0,mv 45 5,op 46 (.slice 1 (t 44) (some (t 45)) none none) [4,5],op 47 (.append 768 1 15637498705947 (t 43) (t 46)) [3,6,3],
 op 4 (.move (t 47)) ([7,7]++rg 8)])
  .ret))))))
def f162:aD:=⟨2,48,[],[.tmp 4],JD,none⟩
abbrev FC:an:=
  (.seq (sr [mv 26 7,mv 27 0,mv 28 6,od 29 (.indexAddr 4 (t 27) (t 28)),
 fa 30 1 29,ld 31 30,ln 32 31,ls 33 26 32]
  (.cond (t 33)
  .skip
  (.exit 2)))
  (.seq (.block 3 (sr [mv 36 0,mv 37 6,od 38 (.indexAddr 4 (t 36) (t 37)),fa 39 1 38,
 ld 40 39,mv 41 7,od 42 (.indexAddr 3 (t 40) (t 41)),la 43 3 42,
 ca 44 720 198 [(t 43)],od 45 (.un .not (t 44))]
  (.cond (t 45)
  (sr [mc 4 0,od 5 (.move (.const (.bool false)))]
  .ret)
  .skip)))
  (rn [mv 34 7,ad 35 34 1,mv 7 35])))
abbrev FD:an:=
 (.seq (sr [mv 20 6,mv 21 0,ln 22 21,ls 23 20 22]
 (.cond (t 23)
 .skip
 (.exit 0)))
 (.seq (.block 1 (sr [mc 7 0]
 (.block 2 (.loop FC))))
 (rn [mv 24 6,ad 25 24 1,mv 6 25])))
abbrev FE:an:=
  (.seq (sr [mv 52 11,ad 53 52 1,mv 54 0,mv 55 10,
 od 56 (.indexAddr 4 (t 54) (t 55)),fa 57 1 56,ld 58 57,ln 59 58,
 ls 60 53 59]
  (.cond (t 60)
  .skip
  (.exit 6)))
  (.seq (.block 7 (sr [mv 63 0,mv 64 10,od 65 (.indexAddr 4 (t 63) (t 64)),fa 66 1 65,
 ld 67 66,mv 68 11,od 69 (.indexAddr 3 (t 67) (t 68)),la 70 3 69,
 od 12 (.new 208 3 (.const (.agg [i0,i0,i0]))),ow (.store true 3 (t 12) (t 70))]
  (sr [mv 71 0,mv 72 10,od 73 (.indexAddr 4 (t 71) (t 72)),fa 74 1 73,
 ld 75 74,mv 76 11,ad 77 76 1,od 78 (.indexAddr 3 (t 75) (t 77)),
 la 79 3 78,od 13 (.new 224 3 (.const (.agg [i0,i0,i0]))),ow (.store true 3 (t 13) (t 79))]
  (.seq (sr [la 80 3 12,la 81 3 13,la 82 2 3,ca 83 1344 200 [(t 80),(t 81),(t 82)]]
  (.cond (t 83)
  (sr [mc 4 0,od 5 (.move (.const (.bool false)))]
  .ret)
  .skip))
  (sr [la 84 3 12,la 85 3 13,la 86 2 3,ca 87 1408 201 [(t 84),(t 85),(t 86)],
 mv 14 87]
  (.seq (.drawn [la 88 3 12,la 89 3 13,mv 90 0,mv 91 10,
 op 92 (.indexAddr 4 (t 90) (t 91)) [2,3],op 93 (.fieldAddr 3 (t 92)) [4],op 94 (.load false 1 (t 93)) [5],op 95 (.build [i0,i0,i0,i0,i0,i0,i0] [(0,3,(t 88)),(3,3,(t 89)),(6,1,(t 94))]) [0,1,6],
 od 15 (.new 256 7 (.const (.agg [i0,i0,i0,i0,i0,i0,i0]))),⟨none,.store true 7 (t 15) (t 95),none,([8,7]++rg 9)⟩])
  (.seq (sr [mv 96 14,od 97 (.bin .lss (t 96) (ic 0))]
  (.cond (t 97)
  (.drawn [la 98 3 13,la 99 3 12,mv 100 0,mv 101 10,
 op 102 (.indexAddr 4 (t 100) (t 101)) [2,3],op 103 (.fieldAddr 2 (t 102)) [4],op 104 (.load false 1 (t 103)) [5],op 105 (.build [i0,i0,i0,i0,i0,i0,i0] [(0,3,(t 98)),(3,3,(t 99)),(6,1,(t 104))]) [0,1,6],
 ⟨none,.store true 7 (t 15) (t 105),none,([7]++rg 8)⟩])
  .skip))
  (sr [mv 106 14,od 107 (.bin .neq (t 106) (ic 0)),mv 108 107,og 109 (.move (t 8)) 108 true,
 og 110 (.un .not (t 109)) 108 true,og 111 (.move (t 110)) 108 true,og 112 (.load true 7 (t 9)) 111 false,og 113 (.load true 7 (t 15)) 111 false,
 og 114 (.call 1840 false (fc 202) [(t 112),(t 113)]) 111 false,og 115 (.pick (t 111) (.const (.bool true)) (t 114)) 108 true,od 116 (.pick (t 108) (t 115) (.const (.bool false)))]
  (.cond (t 116)
  (sr [od 8 (.move (.const (.bool true)))]
  (rn [la 117 7 15,ow (.store true 7 (t 9) (t 117))]))
  .skip)))))))))
  (rn [mv 61 11,ad 62 61 1,mv 11 62])))
abbrev FF:an:=
 (.seq (sr [mv 46 10,mv 47 0,ln 48 47,ls 49 46 48]
 (.cond (t 49)
 .skip
 (.exit 4)))
 (.seq (.block 5 (sr [mc 11 0]
 (.block 6 (.loop FE))))
 (rn [mv 50 10,ad 51 50 1,mv 10 51])))
def JE:an:=
 (sr [od 3 (.new 64 2 (t 1)),mc 4 0,od 5 (.move (.const (.bool false)))]
 (.seq (sr [la 16 2 3,ca 17 288 199 [(t 16)],ca 18 304 198 [(t 17)],od 19 (.un .not (t 18))]
 (.cond (t 19)
 (sr [mc 4 0,od 5 (.move (.const (.bool false)))]
 .ret)
 .skip))
 (.seq (sr [mc 6 0]
 (.block 0 (.loop FD)))
 (sr [od 8 (.move (.const (.bool false)))]
 (sr [od 9 (.new 160 7 (.const (.agg [i0,i0,i0,i0,i0,i0,i0])))]
 (.seq (sr [mc 10 0]
 (.block 4 (.loop FF)))
 (sr [fa 118 6 9,ld 119 118,mv 4 119,od 5 (.move (.const (.bool true)))]
 .ret)))))))
def f163:aD:=⟨2,120,[],[.tmp 4,.tmp 5],JE,none⟩
abbrev FG:an:=
  (.seq (sr [mv 29 6,mv 30 0,mv 31 4,od 32 (.indexAddr 4 (t 30) (t 31)),
 fa 33 1 32,ld 34 33,ln 35 34,ls 36 29 35]
  (.cond (t 36)
  .skip
  (.exit 2)))
  (.seq (.block 3 (.drawn [fa 39 1 5,op 40 (.load false 1 (t 39)) [0],mv 41 0,mv 42 4,
 op 43 (.indexAddr 4 (t 41) (t 42)) [2,3],op 44 (.fieldAddr 1 (t 43)) [4],op 45 (.load false 1 (t 44)) [5],mv 46 6,
 op 47 (.indexAddr 2 (t 45) (t 46)) [6,7],op 48 (.load true 2 (t 47)) [8],op 49 (.call 800 false (fc 199) [(t 48)]) [9],op 50 (.buildSlice 816 3 (.agg [i0,i0,i0]) 1 [(0,(t 49))]) [10],
 op 51 (.append 99 3 5629499534013 (t 40) (t 50)) [1,11,10],op 52 (.fieldAddr 1 (t 5)) (rg 13),⟨none,.store false 1 (t 52) (t 51),none,([13,12,12]++rg 13)⟩]))
  (rn [mv 37 6,ad 38 37 1,mv 6 38])))
abbrev FH:an:=
  (.seq (sr [mv 7 4,mv 8 0,ln 9 8,ls 10 7 9]
  (.cond (t 10)
  .skip
  (.exit 0)))
  (.seq (.block 1 (.seq (.drawn [mv 13 0,mv 14 4,op 15 (.indexAddr 4 (t 13) (t 14)) [0,1],op 16 (.fieldAddr 0 (t 15)) [2],
 op 17 (.load false 1 (t 16)) [3],mv 18 0,mv 19 4,op 20 (.indexAddr 4 (t 18) (t 19)) [5,6],
 op 21 (.fieldAddr 2 (t 20)) [7],op 22 (.load false 1 (t 21)) [8],mv 23 0,mv 24 4,
 op 25 (.indexAddr 4 (t 23) (t 24)) [10,11],op 26 (.fieldAddr 3 (t 25)) [12],op 27 (.load false 1 (t 26)) [13],op 28 (.build [i0,.nils,i0,i0] [(0,1,(t 17)),(2,1,(t 22)),(3,1,(t 27))]) [4,9,14],
 od 5 (.new 96 4 (.const (.agg [i0,.nils,i0,i0]))),⟨none,.store true 4 (t 5) (t 28),none,([16,15]++rg 17)⟩])
  (.seq (sr [mc 6 0]
  (.block 2 (.loop FG)))
  (rn [mv 53 3,la 54 4 5,od 55 (.buildSlice 896 4 (.agg [i0,.nils,i0,i0]) 1 [(0,(t 54))]),od 56 (.append 65 4 2872193639704 (t 53) (t 55)),
 od 3 (.nk 65 (t 56))]))))
  (rn [mv 11 4,ad 12 11 1,mv 4 12])))
def JF:an:=
 (sr [od 2 (.b7 49 4)]
 (sr [od 3 (.b7 65 4)]
 (.seq (sr [mc 4 0]
 (.block 0 (.loop FH)))
 (sr [mv 57 3,mv 2 57]
 .ret))))
def f164:aD:=⟨1,58,[],[.tmp 2],JF,none⟩
abbrev FI:an:=
  (sr [ls 9 8 7]
  (.seq (.cond (t 9)
  .skip
  (.exit 0))
  (.seq (.block 1 (sr [mv 10 8,mv 5 10]
  (sr [mv 11 1,mv 12 0,mv 13 5,od 14 (.indexAddr 2 (t 12) (t 13)),
 la 15 2 14,od 16 (.call 272 false (t 11) [(t 15)])]
  (.cond (t 16)
  (sr [mv 17 5,mv 4 17]
  .ret)
  .skip))))
  (rn [ad 18 8 1,mv 8 18]))))
def JG:an:=
 (sr [mc 4 0]
 (.seq (sr [mv 6 0,ln 7 6,mc 8 0]
 (.block 0 (.loop FI)))
 (sr [mc 4 (-1)]
 .ret)))
def JH:aD:=⟨2,19,[],[.tmp 4],JG,none⟩
def JI:an:=
  (sr [od 2 (.new 48 1 (t 0)),od 4 (.move (.const (.bool false)))]
  (sr [mv 5 1,od 6 (.fy 260 [(t 2)]),ca 7 128 259 [(t 5),(t 6)],od 8 (.un .not (t 7)),
 mv 4 8]
  .ret))
def JJ:aD:=⟨2,9,[],[.tmp 4],JI,none⟩
def JK:an:=
 (sr [od 2 (.move (.const (.bool false)))]
 (sr [mv 3 0,ca 4 80 187 [(t 3),(fc 276)],od 5 (.un .not (t 4)),mv 2 5]
 .ret))
def JL:aD:=⟨1,6,[],[.tmp 2],JK,none⟩
def JM:an:=
  (sr [od 3 (.new 64 2 (t 0)),od 4 (.new 80 2 (t 1)),od 5 (.new 96 2 (t 2)),mc 6 0]
  (.seq (sr [la 9 2 3,la 10 2 4,od 11 (.yy false [1,1] (t 9) (t 10)),mv 12 11,
 og 13 (.load true 2 (t 3)) 12 false,og 14 (.load true 2 (t 4)) 12 false,og 15 (.load true 2 (t 5)) 12 false,og 16 (.buildSlice 272 2 (.agg [i0,i0]) 3 [(0,(t 13)),(1,(t 14)),(2,(t 15))]) 12 false,
 og 17 (.call 288 false (fc 251) [(t 16)]) 12 false,og 18 (.un .not (t 17)) 12 false,od 19 (.pick (t 12) (.const (.bool true)) (t 18))]
  (.cond (t 19)
  (sr [mc 6 0]
  .ret)
  .skip))
  (.seq (.drawn [la 20 2 4,la 21 2 3,op 22 (.call 368 false (fc 37) [(t 20),(t 21)]) [0,1],la 23 2 5,
 la 24 2 3,op 25 (.call 416 false (fc 37) [(t 23),(t 24)]) [3,4,2],od 7 (.new 128 2 (.const (.agg [i0,i0]))),od 8 (.new 144 2 (.const (.agg [i0,i0]))),
 ⟨none,.store true 2 (t 7) (t 22),none,[6,2,5,0,1,2,6,7]⟩,⟨none,.store true 2 (t 8) (t 25),none,([7,5,8]++rg 9)⟩])
  (sr [fa 26 0 7,ld 27 26,fa 28 1 8,ld 29 28,
 fa 30 1 7,ld 31 30,fa 32 0 8,ld 33 32,
 ca 34 560 277 [(t 27),(t 29),(t 31),(t 33)],mv 6 34]
  .ret))))
def JN:aD:=⟨3,35,[],[.tmp 6],JM,none⟩
def JO:an:=
  (sr [mv 5 0,ln 6 5,mv 4 6]
  (rn [mv 7 0,mv 8 4,mv 9 4,od 10 (.c8 .u64 (t 9)),
 ca 11 192 40 [(t 10)],mv 12 1,ca 13 224 278 [(t 7),(ic 0),(t 8),(t 11),(t 12)]]))
def JP:aD:=⟨2,14,[some 2,none],[],JO,none⟩
def JQ:an:=
  (sr [od 2 (.new 48 2 (t 0)),od 3 (.new 64 2 (t 1)),mc 4 0]
  (.seq (.drawn [fa 5 0 2,op 6 (.load false 1 (t 5)) [0],fa 7 0 3,op 8 (.load false 1 (t 7)) [2],
 op 9 (.call 160 false (fc 23) [(t 6),(t 8)]) [1,3],fa 10 1 2,op 11 (.load false 1 (t 10)) [5],fa 12 1 3,
 op 13 (.load false 1 (t 12)) [7],op 14 (.call 240 false (fc 23) [(t 11),(t 13)]) [6,8,4],op 15 (.buildSlice 256 1 (i0) 2 [(0,(t 9)),(1,(t 14))]) [4,9],op 16 (.call 272 false (fc 22) [(t 15)]) [10,9],
 op 4 (.move (t 16)) ([11,11]++rg 12)])
  .ret))
def JR:aD:=⟨2,17,[],[.tmp 4],JQ,none⟩
abbrev FJ:an:=
  (.seq (sr [mv 14 6,mv 15 0,ln 16 15,ls 17 14 16]
  (.cond (t 17)
  .skip
  (.exit 0)))
  (.seq (.block 1 (.seq (.drawn [mv 20 1,mv 21 0,mv 22 6,op 23 (.indexAddr 2 (t 21) (t 22)) [1,2],
 op 24 (.load true 2 (t 23)) [3],la 25 2 5,op 26 (.call 432 false (t 20) [(t 24),(t 25)]) [0,4,5],op 27 (.bin .gtr (t 26) (ic 0)) [6]])
  (.cond (t 27)
  (rn [mv 28 0,mv 29 6,od 30 (.indexAddr 2 (t 28) (t 29)),la 31 2 30,
 ow (.store true 2 (t 5) (t 31))])
  .skip)))
  (rn [mv 18 6,ad 19 18 1,mv 6 19])))
def JS:an:=
  (sr [od 4 (.new 80 2 (.const (.agg [i0,i0])))]
  (.seq (sr [mv 7 0,ln 8 7,od 9 (.bin .lss (t 8) (ic 1))]
  (.cond (t 9)
  (rn [od 10 (.gG 9 (.const (.str [115,108,105,99,101,115,46,77,97,120,70,117,110,99,58,32,101,109,112,116,121,32,108,105,115,116]))),ow (.bad)])
  .skip))
  (sr [mv 11 0,od 12 (.indexAddr 2 (t 11) (ic 0)),la 13 2 12,od 5 (.new 96 2 (.const (.agg [i0,i0]))),
 ow (.store true 2 (t 5) (t 13))]
  (.seq (sr [mc 6 1]
  (.block 0 (.loop FJ)))
  (sr [la 32 2 5,ow (.store true 2 (t 4) (t 32))]
  .ret)))))
def JT:aD:=⟨2,33,[],[.cell 4 true 2],JS,none⟩
abbrev FK:an:=
  (.seq (sr [mv 14 6,mv 15 0,ln 16 15,ls 17 14 16]
  (.cond (t 17)
  .skip
  (.exit 0)))
  (.seq (.block 1 (.seq (.drawn [mv 20 1,mv 21 0,mv 22 6,op 23 (.indexAddr 2 (t 21) (t 22)) [1,2],
 op 24 (.load true 2 (t 23)) [3],la 25 2 5,op 26 (.call 432 false (t 20) [(t 24),(t 25)]) [0,4,5],op 27 (.bin .lss (t 26) (ic 0)) [6]])
  (.cond (t 27)
  (rn [mv 28 0,mv 29 6,od 30 (.indexAddr 2 (t 28) (t 29)),la 31 2 30,
 ow (.store true 2 (t 5) (t 31))])
  .skip)))
  (rn [mv 18 6,ad 19 18 1,mv 6 19])))
def JU:an:=
  (sr [od 4 (.new 80 2 (.const (.agg [i0,i0])))]
  (.seq (sr [mv 7 0,ln 8 7,od 9 (.bin .lss (t 8) (ic 1))]
  (.cond (t 9)
  (rn [od 10 (.gG 9 (.const (.str [115,108,105,99,101,115,46,77,105,110,70,117,110,99,58,32,101,109,112,116,121,32,108,105,115,116]))),ow (.bad)])
  .skip))
  (sr [mv 11 0,od 12 (.indexAddr 2 (t 11) (ic 0)),la 13 2 12,od 5 (.new 96 2 (.const (.agg [i0,i0]))),
 ow (.store true 2 (t 5) (t 13))]
  (.seq (sr [mc 6 1]
  (.block 0 (.loop FK)))
  (sr [la 32 2 5,ow (.store true 2 (t 4) (t 32))]
  .ret)))))
def f175:aD:=⟨2,33,[],[.cell 4 true 2],JU,none⟩
def JV:an:=
  (sr [od 3 (.new 64 2 (t 0)),od 4 (.new 80 2 (t 1)),od 5 (.new 96 2 (t 2)),od 6 (.move (.const (.bool false)))]
  (sr [la 7 2 3,la 8 2 4,la 9 2 5,la 10 2 5,
 ca 11 192 222 [(t 7),(t 8),(t 9),(t 10)],eq 12 11 1,mv 6 12]
  .ret))
def JW:aD:=⟨3,13,[],[.tmp 6],JV,none⟩
abbrev FL:an:=
  (.seq (sr [mv 12 4,mv 13 0,ln 14 13,ls 15 12 14]
  (.cond (t 15)
  .skip
  (.exit 0)))
  (.seq (.block 1 (rn [mv 18 3,mv 19 0,mv 20 4,od 21 (.indexAddr 1 (t 19) (t 20)),
 ld 22 21,od 23 (.min [(t 18),(t 22)]),mv 3 23]))
  (rn [mv 16 4,ad 17 16 1,mv 4 17])))
def JX:an:=
 (sr [mc 2 0]
 (.seq (sr [mv 5 0,ln 6 5,od 7 (.bin .lss (t 6) (ic 1))]
 (.cond (t 7)
 (rn [od 8 (.gG 9 (.const (.str [115,108,105,99,101,115,46,77,105,110,58,32,101,109,112,116,121,32,108,105,115,116]))),ow (.bad)])
 .skip))
 (sr [mv 9 0,od 10 (.indexAddr 1 (t 9) (ic 0)),ld 11 10,mv 3 11]
 (.seq (sr [mc 4 1]
 (.block 0 (.loop FL)))
 (sr [mv 24 3,mv 2 24]
 .ret)))))
def JY:aD:=⟨1,25,[],[.tmp 2],JX,none⟩
abbrev FM:an:=
  (.seq (sr [mv 12 4,mv 13 0,ln 14 13,ls 15 12 14]
  (.cond (t 15)
  .skip
  (.exit 0)))
  (.seq (.block 1 (rn [mv 18 3,mv 19 0,mv 20 4,od 21 (.indexAddr 1 (t 19) (t 20)),
 ld 22 21,od 23 (.max [(t 18),(t 22)]),mv 3 23]))
  (rn [mv 16 4,ad 17 16 1,mv 4 17])))
def JZ:an:=
 (sr [mc 2 0]
 (.seq (sr [mv 5 0,ln 6 5,od 7 (.bin .lss (t 6) (ic 1))]
 (.cond (t 7)
 (rn [od 8 (.gG 9 (.const (.str [115,108,105,99,101,115,46,77,97,120,58,32,101,109,112,116,121,32,108,105,115,116]))),ow (.bad)])
 .skip))
 (sr [mv 9 0,od 10 (.indexAddr 1 (t 9) (ic 0)),ld 11 10,mv 3 11]
 (.seq (sr [mc 4 1]
 (.block 0 (.loop FM)))
 (sr [mv 24 3,mv 2 24]
 .ret)))))
def J0:aD:=⟨1,25,[],[.tmp 2],JZ,none⟩
def J1:an:=
  (sr [od 1 (.new 32 3 (t 0)),od 2 (.move (.const (.bool false)))]
  (sr [fa 3 2 1,ld 4 3,od 5 (.bin .geq (t 4) (ic 1)),mv 6 5,
 og 7 (.fieldAddr 2 (t 1)) 6 true,og 8 (.load false 1 (t 7)) 6 true,og 9 (.bin .leq (t 8) (ic 4194304)) 6 true,od 10 (.pick (t 6) (t 9) (.const (.bool false))),
 mv 11 10,og 12 (.fieldAddr 0 (t 1)) 11 true,og 13 (.load false 1 (t 12)) 11 true,og 14 (.bin .geq (t 13) (ic (-137438953472))) 11 true,
 od 15 (.pick (t 11) (t 14) (.const (.bool false))),mv 16 15,og 17 (.fieldAddr 0 (t 1)) 16 true,og 18 (.load false 1 (t 17)) 16 true,
 og 19 (.bin .leq (t 18) (ic 137438953472)) 16 true,od 20 (.pick (t 16) (t 19) (.const (.bool false))),mv 21 20,og 22 (.fieldAddr 1 (t 1)) 21 true,
 og 23 (.load false 1 (t 22)) 21 true,og 24 (.bin .geq (t 23) (ic (-137438953472))) 21 true,od 25 (.pick (t 21) (t 24) (.const (.bool false))),mv 26 25,
 og 27 (.fieldAddr 1 (t 1)) 26 true,og 28 (.load false 1 (t 27)) 26 true,og 29 (.bin .leq (t 28) (ic 137438953472)) 26 true,od 30 (.pick (t 26) (t 29) (.const (.bool false))),
 mv 2 30]
  .ret))
def f198:aD:=⟨1,31,[],[.tmp 2],J1,none⟩
def J2:an:=
  (sr [od 1 (.new 32 2 (t 0)),od 2 (.new 48 3 (.const (.agg [i0,i0,i0])))]
  (sr [fa 3 0 1,ld 4 3,fa 5 1 1,ld 6 5,
 od 7 (.build [i0,i0,i0] [(0,1,(t 4)),(1,1,(t 6)),(2,1,(ic 1))]),ow (.store true 3 (t 2) (t 7))]
  .ret))
def f199:aD:=⟨1,8,[],[.cell 2 true 3],J2,none⟩
def J3:an:=
  (sr [od 3 (.new 64 3 (t 0)),od 4 (.new 80 3 (t 1)),od 5 (.new 96 2 (t 2)),od 6 (.move (.const (.bool false)))]
  (.seq (.seq (.drawn [la 9 3 3,la 10 3 4,la 11 2 5,op 12 (.call 208 false (fc 199) [(t 11)]) [2],
 op 13 (.call 224 false (fc 235) [(t 9),(t 10),(t 12)]) [0,1,3,3],op 14 (.bin .neq (t 13) (ic 0)) [4]])
  (.cond (t 14)
  (sr [od 6 (.move (.const (.bool false)))]
  .ret)
  .skip))
  (sr [fa 15 0 5,ld 16 15,fa 17 0 3,ld 18 17,
 fa 19 2 3,ld 20 19,od 21 (.build [i0,i0] [(0,1,(t 18)),(1,1,(t 20))]),fa 22 0 4,
 ld 23 22,fa 24 2 4,ld 25 24,od 26 (.build [i0,i0] [(0,1,(t 23)),(1,1,(t 25))]),
 ca 27 448 236 [(t 16),(t 21),(t 26)],mv 7 27]
  (sr [fa 28 1 5,ld 29 28,fa 30 1 3,ld 31 30,
 fa 32 2 3,ld 33 32,od 34 (.build [i0,i0] [(0,1,(t 31)),(1,1,(t 33))]),fa 35 1 4,
 ld 36 35,fa 37 2 4,ld 38 37,od 39 (.build [i0,i0] [(0,1,(t 36)),(1,1,(t 38))]),
 ca 40 656 236 [(t 29),(t 34),(t 39)],mv 8 40]
  (sr [mv 41 7,eq 42 41 0,mv 43 42,og 44 (.move (t 8)) 43 true,
 og 45 (.bin .eql (t 44) (ic 0)) 43 true,od 46 (.pick (t 43) (t 45) (.const (.bool false))),mv 6 46]
  .ret)))))
def f200:aD:=⟨3,47,[],[.tmp 6],J3,none⟩
def J4:an:=
  (sr [od 3 (.new 64 3 (t 0)),od 4 (.new 80 3 (t 1)),od 5 (.new 96 2 (t 2)),mc 6 0]
  (.seq (sr [fa 10 2 3,ld 11 10,od 12 (.bin .lss (t 11) (ic 1)),mv 13 12,
 og 14 (.fieldAddr 2 (t 4)) 13 false,og 15 (.load false 1 (t 14)) 13 false,og 16 (.bin .lss (t 15) (ic 1)) 13 false,od 17 (.pick (t 13) (.const (.bool true)) (t 16))]
  (.cond (t 17)
  (sr [mc 6 0]
  .ret)
  .skip))
  (sr [la 18 2 5,ca 19 320 199 [(t 18)],od 7 (.new 128 3 (.const (.agg [i0,i0,i0]))),ow (.store true 3 (t 7) (t 19))]
  (sr [la 20 3 3,la 21 2 5,ca 22 368 237 [(t 20),(t 21)],mv 8 22]
  (sr [la 23 3 4,la 24 2 5,ca 25 416 237 [(t 23),(t 24)],mv 9 25]
  (.seq (sr [mv 26 8,od 27 (.un .not (t 26)),mv 28 27,og 29 (.move (t 9)) 28 true,
 od 30 (.pick (t 28) (t 29) (.const (.bool false))),mv 31 30,og 32 (.load true 3 (t 3)) 31 true,og 33 (.load true 3 (t 4)) 31 true,
 og 34 (.load true 3 (t 7)) 31 true,og 35 (.call 576 false (fc 235) [(t 32),(t 33),(t 34)]) 31 true,og 36 (.bin .lss (t 35) (ic 0)) 31 true,od 37 (.pick (t 31) (t 36) (.const (.bool false)))]
  (.cond (t 37)
  (sr [mc 6 1]
  .ret)
  .skip))
  (.seq (sr [mv 38 8,mv 39 38,og 40 (.move (t 9)) 39 true,og 41 (.un .not (t 40)) 39 true,
 od 42 (.pick (t 39) (t 41) (.const (.bool false))),mv 43 42,og 44 (.load true 3 (t 4)) 43 true,og 45 (.load true 3 (t 3)) 43 true,
 og 46 (.load true 3 (t 7)) 43 true,og 47 (.call 768 false (fc 235) [(t 44),(t 45),(t 46)]) 43 true,og 48 (.bin .lss (t 47) (ic 0)) 43 true,od 49 (.pick (t 43) (t 48) (.const (.bool false)))]
  (.cond (t 49)
  (sr [mc 6 (-1)]
  .ret)
  .skip))
  (sr [mc 6 0]
  .ret))))))))
def f201:aD:=⟨3,50,[],[.tmp 6],J4,none⟩
def J5:an:=
  (sr [od 2 (.new 48 7 (t 0)),od 3 (.new 64 7 (t 1)),od 4 (.move (.const (.bool false)))]
  (.seq (sr [fa 7 0 3,fa 8 1 7,ld 9 8,fa 10 0 3,
 fa 11 2 10,ld 12 11,od 13 (.build [i0,i0] [(0,1,(t 9)),(1,1,(t 12))]),fa 14 0 2,
 fa 15 1 14,ld 16 15,fa 17 0 2,fa 18 2 17,
 ld 19 18,od 20 (.build [i0,i0] [(0,1,(t 16)),(1,1,(t 19))]),ca 21 352 238 [(t 13),(t 20)],od 22 (.bin .geq (t 21) (ic 0))]
  (.cond (t 22)
  (sr [fa 23 0 2,la 24 3 23,fa 25 3 2,la 26 3 25,
 fa 27 0 3,la 28 3 27,ca 29 480 235 [(t 24),(t 26),(t 28)],mv 5 29]
  (.seq (sr [mv 30 5,eq 31 30 0]
  (.cond (t 31)
  (rn [fa 32 0 2,la 33 3 32,fa 34 3 2,la 35 3 34,
 fa 36 3 3,la 37 3 36,ca 38 624 235 [(t 33),(t 35),(t 37)],mv 5 38])
  .skip))
  (sr [mv 39 5,od 40 (.bin .lss (t 39) (ic 0)),mv 4 40]
  .ret)))
  .skip))
  (sr [fa 41 0 3,la 42 3 41,fa 43 3 3,la 44 3 43,
 fa 45 0 2,la 46 3 45,ca 47 768 235 [(t 42),(t 44),(t 46)],mv 6 47]
  (.seq (sr [mv 48 6,eq 49 48 0]
  (.cond (t 49)
  (rn [fa 50 0 3,la 51 3 50,fa 52 3 3,la 53 3 52,
 fa 54 3 2,la 55 3 54,ca 56 912 235 [(t 51),(t 53),(t 55)],mv 6 56])
  .skip))
  (sr [mv 57 6,od 58 (.bin .gtr (t 57) (ic 0)),mv 4 58]
  .ret)))))
def f202:aD:=⟨2,59,[],[.tmp 4],J5,none⟩
def J6:an:=
  (sr [od 6 (.move (.const (.bool false)))]
  (sr [mv 7 1,mv 8 0,od 9 (.bin .leq (t 7) (t 8)),mv 10 9,
 og 11 (.move (t 0)) 10 true,og 12 (.move (t 2)) 10 true,og 13 (.bin .leq (t 11) (t 12)) 10 true,od 14 (.pick (t 10) (t 13) (.const (.bool false))),
 mv 6 14]
  .ret))
def J7:aD:=⟨3,15,[],[.tmp 6],J6,none⟩
abbrev FN:an:=
  (.seq (sr [mv 41 13,od 42 (.bin .lss (t 41) (ic 2))]
  (.cond (t 42)
  .skip
  (.exit 0)))
  (.seq (.block 1 (.seq (.seq (.drawn [mv 45 13,op 46 (.aW 2 1 (t 11) (t 45)) [0],op 47 (.load false 1 (t 46)) [1],mv 48 13,
 op 49 (.aW 2 1 (t 12) (t 48)) [3],op 50 (.load false 1 (t 49)) [4],op 51 (.bin .gtr (t 47) (t 50)) [2,5]])
  (.cond (t 51)
  (sr [mv 52 9,mv 8 52]
  .ret)
  .skip))
  (.seq (.drawn [mv 53 13,op 54 (.aW 2 1 (t 11) (t 53)) [0],op 55 (.load false 1 (t 54)) [1],mv 56 13,
 op 57 (.aW 2 1 (t 12) (t 56)) [3],op 58 (.load false 1 (t 57)) [4],op 59 (.bin .lss (t 55) (t 58)) [2,5]])
  (.cond (t 59)
  (sr [mv 60 9,od 61 (.un .neg (t 60)),mv 8 61]
  .ret)
  .skip))))
  (rn [mv 43 13,ad 44 43 1,mv 13 44])))
def J8:an:=
  (sr [mc 8 0]
  (sr [mv 14 0,ca 15 256 283 [(t 14)],mv 16 1,ca 17 288 283 [(t 16)],
 od 18 (.bin .mul (t 15) (t 17)),mv 9 18]
  (sr [mv 19 2,ca 20 336 283 [(t 19)],mv 21 3,ca 22 368 283 [(t 21)],
 od 23 (.bin .mul (t 20) (t 22)),mv 10 23]
  (.seq (sr [mv 24 9,mv 25 10,od 26 (.bin .neq (t 24) (t 25))]
  (.cond (t 26)
  (sr [mv 27 9,mv 28 10,od 29 (.bin .sub (t 27) (t 28)),ca 30 496 283 [(t 29)],
 mv 8 30]
  .ret)
  .skip))
  (sr [mv 31 0,ca 32 528 285 [(t 31)],mv 33 1,ca 34 560 285 [(t 33)],
 ca 35 576 284 [(t 32),(t 34)],od 11 (.new 192 2 (.const (.agg [.int .u64 0,.int .u64 0]))),ow (.store true 2 (t 11) (t 35))]
  (sr [mv 36 2,ca 37 608 285 [(t 36)],mv 38 3,ca 39 640 285 [(t 38)],
 ca 40 656 284 [(t 37),(t 39)],od 12 (.new 208 2 (.const (.agg [.int .u64 0,.int .u64 0]))),ow (.store true 2 (t 12) (t 40))]
  (.seq (sr [mc 13 0]
  (.block 0 (.loop FN)))
  (sr [mc 8 0]
  .ret))))))))
def J9:aD:=⟨4,62,[],[.tmp 8],J8,none⟩
def Ka:an:=
  (sr [od 4 (.move (.const (.bool false)))]
  (sr [mv 5 0,mv 6 1,ca 7 128 280 [(t 5),(t 6)],od 8 (.bin .geq (t 7) (ic 0)),
 mv 4 8]
  .ret))
def Kb:aD:=⟨2,9,[],[.tmp 4],Ka,none⟩
def Kc:an:=
  (sr [od 3 (.move (.const (.bool false)))]
  (sr [mv 4 0,ld 5 1,od 6 (.un .neg (t 5)),ls 7 4 6,
 mv 8 7,og 9 (.move (t 0)) 8 false,og 10 (.load false 1 (t 1)) 8 false,og 11 (.bin .gtr (t 9) (t 10)) 8 false,
 od 12 (.pick (t 8) (.const (.bool true)) (t 11)),mv 3 12]
  .ret))
def Kd:aD:=⟨2,13,[],[.tmp 3],Kc,none⟩
def Ke:an:=
  (sr [od 1 (.new 32 2 (t 0)),od 2 (.move (.const (.bool false)))]
  (sr [fa 3 0 1,ld 4 3,fa 5 1 1,ld 6 5,
 od 7 (.buildSlice 128 1 (i0) 2 [(0,(t 4)),(1,(t 6))]),ca 8 144 227 [(ic 1152921504606846976),(t 7)],od 9 (.un .not (t 8)),mv 2 9]
  .ret))
def Kf:aD:=⟨1,10,[],[.tmp 2],Ke,none⟩
def Kg:an:=
  (sr [mc 8 0]
  (sr [mv 11 0,ca 12 208 287 [(t 11)],mv 13 1,ca 14 240 287 [(t 13)],
 od 15 (.bin .mul (t 12) (t 14)),mv 16 2,ca 17 288 287 [(t 16)],mv 18 3,
 ca 19 320 287 [(t 18)],od 20 (.bin .mul (t 17) (t 19)),mv 9 15,mv 10 20]
  (.seq (sr [mv 21 9,mv 22 10,od 23 (.bin .neq (t 21) (t 22))]
  (.cond (t 23)
  (sr [mv 24 9,mv 25 10,od 26 (.bin .sub (t 24) (t 25)),ca 27 448 287 [(t 26)],
 mv 8 27]
  .ret)
  .skip))
  (sr [mv 28 9,mv 29 0,mv 30 1,ca 31 512 288 [(t 29),(t 30)],
 mv 32 2,mv 33 3,ca 34 560 288 [(t 32),(t 33)],ca 35 576 289 [(t 31),(t 34)],
 od 36 (.bin .mul (t 28) (t 35)),mv 8 36]
  .ret))))
def Kh:aD:=⟨4,37,[],[.tmp 8],Kg,none⟩
abbrev FO:an:=
  (.block 1 (sr [mv 21 2,mv 22 1,od 23 (.bin .sub (t 21) (t 22)),mv 12 23]
  (.seq (sr [mv 24 12,od 25 (.bin .leq (t 24) (ic 12))]
  (.cond (t 25)
  (sr [mv 26 0,mv 27 1,mv 28 2,mv 29 4,
 ca 30 496 290 [(t 26),(t 27),(t 28),(t 29)]]
  .ret)
  .skip))
  (.seq (sr [mv 31 3,eq 32 31 0]
  (.cond (t 32)
  (sr [mv 33 0,mv 34 1,mv 35 2,mv 36 4,
 ca 37 608 291 [(t 33),(t 34),(t 35),(t 36)]]
  .ret)
  .skip))
  (.seq (sr [mv 38 10,od 39 (.un .not (t 38))]
  (.cond (t 39)
  (sr [mv 40 0,mv 41 1,mv 42 2,mv 43 4,
 ca 44 720 292 [(t 40),(t 41),(t 42),(t 43)]]
  (rn [mv 45 3,od 46 (.bin .sub (t 45) (ic 1)),mv 3 46]))
  .skip))
  (sr [mv 48 0,mv 49 1,mv 50 2,mv 51 4,
 ca 52 848 293 [(t 48),(t 49),(t 50),(t 51)],mv 47 52,xt 53 47 0,xt 54 47 1,
 mv 13 53,mv 14 54]
  (.seq (sr [mv 55 14,eq 56 55 2]
  (.cond (t 56)
  (sr [mv 57 0,mv 58 1,mv 59 2,mv 60 4,
 ca 61 992 294 [(t 57),(t 58),(t 59),(t 60)]]
  (sr [mv 62 2,od 63 (.bin .sub (t 62) (ic 1)),mv 64 13,mv 65 1,
 od 66 (.bin .sub (t 64) (t 65)),od 67 (.bin .sub (t 63) (t 66)),mv 13 67]
  (rn [mc 14 1])))
  .skip))
  (.seq (sr [mv 68 10,mv 69 68,og 70 (.move (t 11)) 69 true,od 71 (.pick (t 69) (t 70) (.const (.bool false))),
 mv 72 71,og 73 (.move (t 14)) 72 true,og 74 (.bin .eql (t 73) (ic 1)) 72 true,od 75 (.pick (t 72) (t 74) (.const (.bool false)))]
  (.cond (t 75)
  (sr [mv 76 0,mv 77 1,mv 78 2,mv 79 4,
 ca 80 1296 295 [(t 76),(t 77),(t 78),(t 79)]]
  (.cond (t 80)
  .ret
  .skip))
  .skip))
  (.seq (.seq (.drawn [mv 81 1,op 82 (.bin .gtr (t 81) (ic 0)) [0],op 83 (.move (t 82)) [1],⟨some 84,.move (t 4),some (83,true),[2]⟩,
 ⟨some 85,.move (t 0),some (83,true),[2]⟩,⟨some 86,.move (t 1),some (83,true),[2]⟩,⟨some 87,.bin .sub (t 86) (ic 1),some (83,true),[5,2]⟩,⟨some 88,.indexAddr 2 (t 85) (t 87),some (83,true),[4,6,2]⟩,
 ⟨some 89,.load true 2 (t 88),some (83,true),[7,2]⟩,⟨some 90,.move (t 0),some (83,true),[2]⟩,⟨some 91,.move (t 13),some (83,true),[2]⟩,⟨some 92,.indexAddr 2 (t 90) (t 91),some (83,true),[9,10,2]⟩,
 ⟨some 93,.load true 2 (t 92),some (83,true),[11,2]⟩,⟨some 94,.call 1520 false (t 84) [(t 89),(t 93)],some (83,true),[3,8,12,2,2]⟩,⟨some 95,.bin .lss (t 94) (ic 0),some (83,true),[13,2]⟩,⟨some 96,.un .not (t 95),some (83,true),[14,2]⟩,
 op 97 (.pick (t 83) (t 96) (.const (.bool false))) [2,15]])
  (.cond (t 97)
  (sr [mv 98 0,mv 99 1,mv 100 2,mv 101 13,
 mv 102 4,ca 103 1664 296 [(t 98),(t 99),(t 100),(t 101),(t 102)],mv 15 103]
  (sr [mv 104 15,mv 1 104]
  (.exit 1)))
  .skip))
  (sr [mv 106 0,mv 107 1,mv 108 2,mv 109 13,
 mv 110 4,ca 111 1792 297 [(t 106),(t 107),(t 108),(t 109),(t 110)],mv 105 111,xt 112 105 0,
 xt 113 105 1,mv 16 112,mv 17 113]
  (sr [mv 114 17,mv 11 114]
  (sr [mv 115 16,mv 116 1,od 117 (.bin .sub (t 115) (t 116)),mv 118 2,
 mv 119 16,od 120 (.bin .sub (t 118) (t 119)),mv 18 117,mv 19 120]
  (sr [mv 121 12,od 122 (.bin .quo (t 121) (ic 8)),mv 20 122]
  (sr [mv 123 18,mv 124 19,ls 125 123 124]
  (.cond (t 125)
  (sr [mv 126 18,mv 127 20,od 128 (.bin .geq (t 126) (t 127)),mv 10 128]
  (sr [mv 129 0,mv 130 1,mv 131 16,mv 132 3,
 mv 133 4,ca 134 2160 278 [(t 129),(t 130),(t 131),(t 132),(t 133)]]
  (rn [mv 135 16,ad 136 135 1,mv 1 136])))
  (sr [mv 137 19,mv 138 20,od 139 (.bin .geq (t 137) (t 138)),mv 10 139]
  (sr [mv 140 0,mv 141 16,ad 142 141 1,mv 143 2,
 mv 144 3,mv 145 4,ca 146 2352 278 [(t 140),(t 142),(t 143),(t 144),(t 145)]]
  (rn [mv 147 16,mv 2 147]))))))))))))))))))
def Ki:an:=
 (sr [od 10 (.move (.const (.bool true)))]
 (sr [od 11 (.move (.const (.bool true)))]
 (.block 0 (.loop FO))))
def Kj:aD:=⟨5,148,[some 2,none,none,none,none],[],Ki,none⟩
def Kk:an:=
  (sr [od 3 (.new 64 3 (t 0)),od 4 (.new 80 3 (t 1)),od 5 (.new 96 3 (t 2)),mc 6 0]
  (.seq (sr [la 11 3 3,ca 12 208 270 [(t 11)],mv 13 12,og 14 (.load true 3 (t 4)) 13 false,
 og 15 (.call 256 false (fc 270) [(t 14)]) 13 false,od 16 (.pick (t 13) (.const (.bool true)) (t 15)),mv 17 16,og 18 (.load true 3 (t 5)) 17 false,
 og 19 (.call 320 false (fc 270) [(t 18)]) 17 false,od 20 (.pick (t 17) (.const (.bool true)) (t 19))]
  (.cond (t 20)
  (sr [mc 6 0]
  .ret)
  .skip))
  (sr [fa 21 0 4,ld 22 21,fa 23 2 3,ld 24 23,
 od 25 (.bin .mul (t 22) (t 24)),fa 26 0 3,ld 27 26,fa 28 2 4,
 ld 29 28,od 30 (.bin .mul (t 27) (t 29)),od 31 (.bin .sub (t 25) (t 30)),mv 7 31]
  (sr [fa 32 1 4,ld 33 32,fa 34 2 3,ld 35 34,
 od 36 (.bin .mul (t 33) (t 35)),fa 37 1 3,ld 38 37,fa 39 2 4,
 ld 40 39,od 41 (.bin .mul (t 38) (t 40)),od 42 (.bin .sub (t 36) (t 41)),mv 8 42]
  (sr [fa 43 0 5,ld 44 43,fa 45 2 3,ld 46 45,
 od 47 (.bin .mul (t 44) (t 46)),fa 48 0 3,ld 49 48,fa 50 2 5,
 ld 51 50,od 52 (.bin .mul (t 49) (t 51)),od 53 (.bin .sub (t 47) (t 52)),mv 9 53]
  (sr [fa 54 1 5,ld 55 54,fa 56 2 3,ld 57 56,
 od 58 (.bin .mul (t 55) (t 57)),fa 59 1 3,ld 60 59,fa 61 2 5,
 ld 62 61,od 63 (.bin .mul (t 60) (t 62)),od 64 (.bin .sub (t 58) (t 63)),mv 10 64]
  (sr [mv 65 7,mv 66 10,mv 67 8,mv 68 9,
 ca 69 1120 271 [(t 65),(t 66),(t 67),(t 68)],mv 6 69]
  .ret)))))))
def Kl:aD:=⟨3,70,[],[.tmp 6],Kk,none⟩
def Km:an:=
  (sr [od 4 (.new 80 2 (t 1)),od 5 (.new 96 2 (t 2)),mc 6 0]
  (sr [mv 9 0,od 10 (.build [i0,i0] [(0,1,(t 9)),(1,1,(ic 1))]),la 11 2 4,ca 12 208 238 [(t 10),(t 11)],
 mv 7 12]
  (sr [mv 13 0,od 14 (.build [i0,i0] [(0,1,(t 13)),(1,1,(ic 1))]),la 15 2 5,ca 16 272 238 [(t 14),(t 15)],
 mv 8 16]
  (.seq (sr [mv 17 7,mv 18 8,od 19 (.bin .eql (t 17) (t 18))]
  (.cond (t 19)
  (sr [mv 20 7,mv 6 20]
  .ret)
  .skip))
  (sr [mc 6 0]
  .ret)))))
def Kn:aD:=⟨3,21,[],[.tmp 6],Km,none⟩
def Ko:an:=
  (sr [od 2 (.new 48 3 (t 0)),od 3 (.new 64 2 (t 1)),od 4 (.move (.const (.bool false)))]
  (sr [fa 5 1 2,ld 6 5,fa 7 2 2,ld 8 7,
 od 9 (.build [i0,i0] [(0,1,(t 6)),(1,1,(t 8))]),fa 10 1 3,ld 11 10,od 12 (.build [i0,i0] [(0,1,(t 11)),(1,1,(ic 1))]),
 ca 13 224 238 [(t 9),(t 12)],od 14 (.bin .gtr (t 13) (ic 0)),mv 4 14]
  .ret))
def Kq:aD:=⟨2,15,[],[.tmp 4],Ko,none⟩
def Kr:an:=
  (sr [od 2 (.new 48 2 (t 0)),od 3 (.new 64 2 (t 1)),mc 4 0]
  (.seq (sr [fa 5 1 2,ld 6 5,od 7 (.bin .lss (t 6) (ic 1)),mv 8 7,
 og 9 (.fieldAddr 1 (t 3)) 8 false,og 10 (.load false 1 (t 9)) 8 false,og 11 (.bin .lss (t 10) (ic 1)) 8 false,od 12 (.pick (t 8) (.const (.bool true)) (t 11))]
  (.cond (t 12)
  (sr [mc 4 0]
  .ret)
  .skip))
  (sr [fa 13 0 2,ld 14 13,fa 15 1 3,ld 16 15,
 fa 17 0 3,ld 18 17,fa 19 1 2,ld 20 19,
 ca 21 352 271 [(t 14),(t 16),(t 18),(t 20)],mv 4 21]
  .ret)))
def Ks:aD:=⟨2,22,[],[.tmp 4],Kr,none⟩
def Kt:an:=
 (sr [mc 2 0]
 (.seq (sr [mv 3 0,od 4 (.bin .gtr (t 3) (ic 0))]
 (.cond (t 4)
 (sr [mc 2 1]
 .ret)
 .skip))
 (.seq (sr [mv 5 0,od 6 (.bin .lss (t 5) (ic 0))]
 (.cond (t 6)
 (sr [mc 2 (-1)]
 .ret)
 .skip))
 (sr [mc 2 0]
 .ret))))
def Ku:aD:=⟨1,7,[],[.tmp 2],Kt,none⟩
def Kv:an:=
  (sr [od 4 (.new 80 2 (.const (.agg [.int .u64 0,.int .u64 0])))]
  (sr [od 5 (.move (.const (.int .u64 4294967295)))]
  (sr [mv 12 0,od 13 (.bin .shr (t 12) (.const (.int .u64 32))),mv 6 13]
  (sr [mv 14 0,mv 15 5,od 16 (.bin .and (t 14) (t 15)),mv 7 16]
  (sr [mv 17 1,od 18 (.bin .shr (t 17) (.const (.int .u64 32))),mv 8 18]
  (sr [mv 19 1,mv 20 5,od 21 (.bin .and (t 19) (t 20)),mv 9 21]
  (sr [mv 22 6,mv 23 9,od 24 (.bin .mul (t 22) (t 23)),mv 25 7,
 mv 26 9,od 27 (.bin .mul (t 25) (t 26)),od 28 (.bin .shr (t 27) (.const (.int .u64 32))),od 29 (.bin .add (t 24) (t 28)),
 mv 10 29]
  (sr [mv 30 7,mv 31 8,od 32 (.bin .mul (t 30) (t 31)),mv 33 10,
 mv 34 5,od 35 (.bin .and (t 33) (t 34)),od 36 (.bin .add (t 32) (t 35)),mv 11 36]
  (sr [mv 37 6,mv 38 8,od 39 (.bin .mul (t 37) (t 38)),mv 40 10,
 od 41 (.bin .shr (t 40) (.const (.int .u64 32))),od 42 (.bin .add (t 39) (t 41)),mv 43 11,od 44 (.bin .shr (t 43) (.const (.int .u64 32))),
 od 45 (.bin .add (t 42) (t 44)),mv 46 0,mv 47 1,od 48 (.bin .mul (t 46) (t 47)),
 od 49 (.build [.int .u64 0,.int .u64 0] [(0,1,(t 45)),(1,1,(t 48))]),ow (.store true 2 (t 4) (t 49))]
  .ret)))))))))
def Kw:aD:=⟨2,50,[],[.cell 4 true 2],Kv,none⟩
def Kx:an:=
 (sr [od 2 (.move (.const (.int .u64 0)))]
 (.seq (sr [mv 3 0,od 4 (.bin .lss (t 3) (ic 0))]
 (.cond (t 4)
 (sr [mv 5 0,od 6 (.c8 .u64 (t 5)),od 7 (.un .neg (t 6)),mv 2 7]
 .ret)
 .skip))
 (sr [mv 8 0,od 9 (.c8 .u64 (t 8)),mv 2 9]
 .ret)))
def Ky:aD:=⟨1,10,[],[.tmp 2],Kx,none⟩
abbrev FP:an:=
  (sr [ls 9 8 7]
  (.seq (.cond (t 9)
  .skip
  (.exit 0))
  (.seq (.block 1 (sr [mv 10 8,mv 5 10]
  (sr [mv 11 1,mv 12 0,mv 13 5,od 14 (.indexAddr 1 (t 12) (t 13)),
 ld 15 14,od 16 (.call 272 false (t 11) [(t 15)])]
  (.cond (t 16)
  (sr [mv 17 5,mv 4 17]
  .ret)
  .skip))))
  (rn [ad 18 8 1,mv 8 18]))))
def Kz:an:=
 (sr [mc 4 0]
 (.seq (sr [mv 6 0,ln 7 6,mc 8 0]
 (.block 0 (.loop FP)))
 (sr [mc 4 (-1)]
 .ret)))
def KA:aD:=⟨2,19,[],[.tmp 4],Kz,none⟩
def KB:an:=
 (sr [mc 2 0]
 (sr [mv 3 0,ca 4 80 23 [(t 3),(ic 0)],mv 2 4]
 .ret))
def KC:aD:=⟨1,5,[],[.tmp 2],KB,none⟩
def KD:an:=
  (sr [od 4 (.new 80 2 (.const (.agg [.int .u64 0,.int .u64 0])))]
  (sr [mv 8 0,ca 9 160 299 [(t 8)],mv 10 1,ca 11 192 299 [(t 10)],
 ca 12 208 298 [(t 9),(t 11)],mv 7 12,xt 13 7 0,xt 14 7 1,
 mv 5 13,mv 6 14]
  (sr [mv 15 5,mv 16 6,od 17 (.build [.int .u64 0,.int .u64 0] [(0,1,(t 15)),(1,1,(t 16))]),ow (.store true 2 (t 4) (t 17))]
  .ret)))
def KE:aD:=⟨2,18,[],[.cell 4 true 2],KD,none⟩
def KF:an:=
  (sr [od 2 (.new 48 2 (t 0)),od 3 (.new 64 2 (t 1)),mc 4 0]
  (.seq (sr [od 6 (.aW 2 1 (t 2) (ic 0)),ld 7 6,od 8 (.aW 2 1 (t 3) (ic 0)),ld 9 8,
 ca 10 176 300 [(t 7),(t 9)],mv 5 10]
  (sr [mv 11 5,od 12 (.bin .neq (t 11) (ic 0))]
  (.cond (t 12)
  (sr [mv 13 5,mv 4 13]
  .ret)
  .skip)))
  (sr [od 14 (.aW 2 1 (t 2) (ic 1)),ld 15 14,od 16 (.aW 2 1 (t 3) (ic 1)),ld 17 16,
 ca 18 304 300 [(t 15),(t 17)],mv 4 18]
  .ret)))
def KG:aD:=⟨2,19,[],[.tmp 4],KF,none⟩
abbrev FQ:an:=
  (.seq (.seq (.drawn [mv 18 9,mv 19 1,op 20 (.bin .gtr (t 18) (t 19)) [0,1],op 21 (.move (t 20)) [2],
 ⟨some 22,.move (t 3),some (21,true),[3]⟩,⟨some 23,.move (t 0),some (21,true),[3]⟩,⟨some 24,.move (t 9),some (21,true),[3]⟩,⟨some 25,.indexAddr 2 (t 23) (t 24),some (21,true),[5,6,3]⟩,
 ⟨some 26,.load true 2 (t 25),some (21,true),[7,3]⟩,⟨some 27,.move (t 0),some (21,true),[3]⟩,⟨some 28,.move (t 9),some (21,true),[3]⟩,⟨some 29,.bin .sub (t 28) (ic 1),some (21,true),[10,3]⟩,
 ⟨some 30,.indexAddr 2 (t 27) (t 29),some (21,true),[9,11,3]⟩,⟨some 31,.load true 2 (t 30),some (21,true),[12,3]⟩,⟨some 32,.call 528 false (t 22) [(t 26),(t 31)],some (21,true),[4,8,13,3,3]⟩,⟨some 33,.bin .lss (t 32) (ic 0),some (21,true),[14,3]⟩,
 op 34 (.pick (t 21) (t 33) (.const (.bool false))) [3,15]])
  (.cond (t 34)
  .skip
  (.exit 2)))
  (.seq (.block 3 (.drawn [mv 37 0,mv 38 9,mv 39 0,mv 40 9,
 op 41 (.bin .sub (t 40) (ic 1)) [3],mv 42 0,mv 43 9,op 44 (.bin .sub (t 43) (ic 1)) [6],
 op 45 (.indexAddr 2 (t 42) (t 44)) [5,7],op 46 (.load true 2 (t 45)) [8],mv 47 0,mv 48 9,
 op 49 (.indexAddr 2 (t 47) (t 48)) [10,11],op 50 (.load true 2 (t 49)) [12],op 51 (.indexAddr 2 (t 37) (t 38)) [0,1,0,1,5,6,7,8,9,13],⟨none,.store true 2 (t 51) (t 46),none,[14,9,0,1,5,6,7,8,9,13]⟩,
 op 52 (.indexAddr 2 (t 39) (t 41)) ([2,4]++rg 16),⟨none,.store true 2 (t 52) (t 50),none,([16,13,15]++rg 16)⟩]))
  (rn [mv 35 9,od 36 (.bin .sub (t 35) (ic 1)),mv 9 36])))
abbrev FR:an:=
 (.seq (sr [mv 12 8,mv 13 2,ls 14 12 13]
 (.cond (t 14)
 .skip
 (.exit 0)))
 (.seq (.block 1 (sr [mv 17 8,mv 9 17]
 (.block 2 (.loop FQ))))
 (rn [mv 15 8,ad 16 15 1,mv 8 16])))
def KH:an:=
 (sr [mv 10 1,ad 11 10 1,mv 8 11]
 (.block 0 (.loop FR)))
def KI:aD:=⟨4,53,[some 2,none,none,none],[],KH,none⟩
def KJ:an:=
  (sr [od 1 (.new 32 3 (t 0)),od 2 (.move (.const (.bool false)))]
  (sr [fa 3 2 1,ld 4 3,ca 5 96 282 [(t 4),(ic 1),(ic 4194304)],od 6 (.un .not (t 5)),
 mv 7 6,og 8 (.fieldAddr 0 (t 1)) 7 false,og 9 (.load false 1 (t 8)) 7 false,og 10 (.call 176 false (fc 282) [(t 9),(ic (-137438953472)),(ic 137438953472)]) 7 false,
 og 11 (.un .not (t 10)) 7 false,od 12 (.pick (t 7) (.const (.bool true)) (t 11)),mv 13 12,og 14 (.fieldAddr 1 (t 1)) 13 false,
 og 15 (.load false 1 (t 14)) 13 false,og 16 (.call 272 false (fc 282) [(t 15),(ic (-137438953472)),(ic 137438953472)]) 13 false,og 17 (.un .not (t 16)) 13 false,od 18 (.pick (t 13) (.const (.bool true)) (t 17)),
 mv 2 18]
  .ret))
def KL:aD:=⟨1,19,[],[.tmp 2],KJ,none⟩
def KM:an:=
  (sr [od 4 (.move (.const (.int .u64 0))),od 5 (.move (.const (.int .u64 0)))]
  (sr [mv 14 0,od 15 (.bin .and (t 14) (.const (.int .u64 4294967295))),mv 6 15]
  (sr [mv 16 0,od 17 (.bin .shr (t 16) (.const (.int .u64 32))),mv 7 17]
  (sr [mv 18 1,od 19 (.bin .and (t 18) (.const (.int .u64 4294967295))),mv 8 19]
  (sr [mv 20 1,od 21 (.bin .shr (t 20) (.const (.int .u64 32))),mv 9 21]
  (sr [mv 22 6,mv 23 8,od 24 (.bin .mul (t 22) (t 23)),mv 10 24]
  (sr [mv 25 7,mv 26 8,od 27 (.bin .mul (t 25) (t 26)),mv 28 10,
 od 29 (.bin .shr (t 28) (.const (.int .u64 32))),od 30 (.bin .add (t 27) (t 29)),mv 11 30]
  (sr [mv 31 11,od 32 (.bin .and (t 31) (.const (.int .u64 4294967295))),mv 12 32]
  (sr [mv 33 11,od 34 (.bin .shr (t 33) (.const (.int .u64 32))),mv 13 34]
  (sr [mv 35 12,mv 36 6,mv 37 9,od 38 (.bin .mul (t 36) (t 37)),
 od 39 (.bin .add (t 35) (t 38)),mv 12 39]
  (sr [mv 40 7,mv 41 9,od 42 (.bin .mul (t 40) (t 41)),mv 43 13,
 od 44 (.bin .add (t 42) (t 43)),mv 45 12,od 46 (.bin .shr (t 45) (.const (.int .u64 32))),od 47 (.bin .add (t 44) (t 46)),
 mv 4 47]
  (sr [mv 48 0,mv 49 1,od 50 (.bin .mul (t 48) (t 49)),mv 5 50]
  .ret))))))))))))
def KN:aD:=⟨2,51,[],[.tmp 4,.tmp 5],KM,none⟩
def KO:an:=
 (sr [od 2 (.move (.const (.int .u64 0)))]
 (.seq (sr [mv 3 0,od 4 (.bin .lss (t 3) (ic 0))]
 (.cond (t 4)
 (sr [mv 5 0,od 6 (.c8 .u64 (t 5)),od 7 (.un .neg (t 6)),mv 2 7]
 .ret)
 .skip))
 (sr [mv 8 0,od 9 (.c8 .u64 (t 8)),mv 2 9]
 .ret)))
def KP:aD:=⟨1,10,[],[.tmp 2],KO,none⟩
def KQ:an:=
 (sr [mc 4 0]
 (sr [mv 7 0,ca 8 144 304 [(t 7)],mv 5 8]
 (sr [mv 9 1,ca 10 176 304 [(t 9)],mv 6 10]
 (.seq (sr [mv 11 5]
 (.cond (t 11)
 (.seq (sr [mv 12 6]
 (.cond (t 12)
 (sr [mc 4 0]
 .ret)
 .skip))
 (sr [mc 4 (-1)]
 .ret))
 .skip))
 (.seq (sr [mv 13 6]
 (.cond (t 13)
 (sr [mc 4 1]
 .ret)
 .skip))
 (.seq (sr [mv 14 0,mv 15 1,ls 16 14 15]
 (.cond (t 16)
 (sr [mc 4 (-1)]
 .ret)
 .skip))
 (.seq (sr [mv 17 0,mv 18 1,od 19 (.bin .gtr (t 17) (t 18))]
 (.cond (t 19)
 (sr [mc 4 1]
 .ret)
 .skip))
 (sr [mc 4 0]
 .ret))))))))
def KR:aD:=⟨2,20,[],[.tmp 4],KQ,none⟩
def KS:an:=
 (sr [od 2 (.move (.const (.bool false)))]
 (sr [mv 3 0,mv 4 0,od 5 (.bin .neq (t 3) (t 4)),mv 2 5]
 .ret))
def KT:aD:=⟨1,6,[],[.tmp 2],KS,none⟩
def CJ:List (Nat×aD):=[(520,HZ),(521,H2),(522,H4),(523,H6),(524,H8),(526,Ia),(527,Ic),(529,M5),(531,Ih),(532,M6),(165,f165),(533,M7),(77,f77),(93,f93),(534,Io),(535,Iq),(540,Is),(144,f144),(541,Iv),(219,Ix),(37,f37),(27,f27),(161,f161),(543,IC),(544,Nc),(545,Nf),(83,f83),(84,f84),(85,f85),(86,f86),(87,f87),(131,f131),(547,IP),(550,IS),(179,f179),(551,IV),(181,f181),(182,f182),(183,f183),(184,f184),(552,I1),(553,Fo),(554,I4),(555,I6),(556,I8),(41,f41),(216,Ja),(557,Jc),(558,Nl),(40,f40),(22,f22),(23,f23),(113,f113),(114,f114),(115,f115),(116,f116),(117,f117),(118,f118),(119,f119),(120,f120),(121,f121),(122,f122),(187,f187),(220,Jr),(189,f189),(222,Ju),(565,Jw),(566,Jz),(186,f186),(33,f33),(567,Nq),(50,f50),(51,f51),(36,f36),(162,f162),(163,f163),(164,f164),(224,JH),(227,JJ),(251,JL),(252,JN),(253,JP),(254,JR),(255,JT),(175,f175),(223,JW),(429,JY),(430,J0),(198,f198),(199,f199),(200,f200),(201,f201),(202,f202),(282,J7),(271,J9),(259,Kb),(260,Kd),(276,Kf),(277,Kh),(278,Kj),(235,Kl),(236,Kn),(237,Kq),(238,Ks),(283,Ku),(284,Kw),(285,Ky),(280,KA),(287,KC),(288,KE),(289,KG),(290,KI),(270,KL),(298,KN),(299,KP),(300,KR),(304,KT)]
def CK:List (Nat× (List V→Option eS)):=[(28,dQ 4 2872193639704),(29,dQ 5 2469078742875),(30,dQ 8 1450901941607),(31,dQ 7 1927910799188),(32,dQ 2 8278675785407),(52,vU)]
def zX:List (Nat× (List V→Option (List (List V)))):=[(221,zQ),(564,Cu)]
def E:Env:=Mq CJ CK [] zX
theorem Nu:E.fn 520=some HZ:=rfl
theorem Nv (as:List V):E.ext 520 as=none:=rfl
theorem Nw:E.fn 521=some H2:=rfl
theorem Nx (as:List V):E.ext 521 as=none:=rfl
theorem Ny:E.fn 522=some H4:=rfl
theorem Nz (as:List V):E.ext 522 as=none:=rfl
theorem NA:E.fn 523=some H6:=rfl
theorem NB (as:List V):E.ext 523 as=none:=rfl
theorem G8:E.fn 524=some H8:=rfl
theorem G9 (as:List V):E.ext 524 as=none:=rfl
theorem NC:E.fn 526=some Ia:=rfl
theorem ND (as:List V):E.ext 526 as=none:=rfl
theorem NF:E.fn 527=some Ic:=rfl
theorem NG (as:List V):E.ext 527 as=none:=rfl
theorem NH:E.fn 531=some Ih:=rfl
theorem NI (as:List V):E.ext 531 as=none:=rfl
theorem U0:E.fn 77=some f77:=rfl
theorem U1 (as:List V):E.ext 77 as=none:=rfl
theorem UW:E.fn 93=some f93:=rfl
theorem UX (as:List V):E.ext 93 as=none:=rfl
theorem NJ:E.fn 534=some Io:=rfl
theorem NK (as:List V):E.ext 534 as=none:=rfl
theorem NL:E.fn 535=some Iq:=rfl
theorem NM (as:List V):E.ext 535 as=none:=rfl
theorem NN:E.fn 540=some Is:=rfl
theorem NO (as:List V):E.ext 540 as=none:=rfl
theorem NP:E.fn 144=some f144:=rfl
theorem NQ (as:List V):E.ext 144 as=none:=rfl
theorem NR:E.fn 541=some Iv:=rfl
theorem NS (as:List V):E.ext 541 as=none:=rfl
theorem NT:E.fn 219=some Ix:=rfl
theorem NU (as:List V):E.ext 219 as=none:=rfl
theorem U2:E.fn 37=some f37:=rfl
theorem U3 (as:List V):E.ext 37 as=none:=rfl
theorem NV:E.fn 27=some f27:=rfl
theorem NW (as:List V):E.ext 27 as=none:=rfl
theorem NX:E.fn 161=some f161:=rfl
theorem NY (as:List V):E.ext 161 as=none:=rfl
theorem NZ:E.fn 543=some IC:=rfl
theorem N0 (as:List V):E.ext 543 as=none:=rfl
theorem U4:E.fn 83=some f83:=rfl
theorem U5 (as:List V):E.ext 83 as=none:=rfl
theorem N1:E.fn 84=some f84:=rfl
theorem N2 (as:List V):E.ext 84 as=none:=rfl
theorem UY:E.fn 85=some f85:=rfl
theorem UZ (as:List V):E.ext 85 as=none:=rfl
theorem U6:E.fn 86=some f86:=rfl
theorem U7 (as:List V):E.ext 86 as=none:=rfl
theorem U8:E.fn 87=some f87:=rfl
theorem U9 (as:List V):E.ext 87 as=none:=rfl
theorem N3:E.fn 131=some f131:=rfl
theorem N4 (as:List V):E.ext 131 as=none:=rfl
theorem N5:E.fn 547=some IP:=rfl
theorem N6 (as:List V):E.ext 547 as=none:=rfl
theorem N7:E.fn 550=some IS:=rfl
theorem N8 (as:List V):E.ext 550 as=none:=rfl
theorem N9:E.fn 179=some f179:=rfl
theorem Oa (as:List V):E.ext 179 as=none:=rfl
theorem Ob:E.fn 551=some IV:=rfl
theorem Od (as:List V):E.ext 551 as=none:=rfl
theorem Oe:E.fn 181=some f181:=rfl
theorem Og (as:List V):E.ext 181 as=none:=rfl
theorem Oi:E.fn 182=some f182:=rfl
theorem Oj (as:List V):E.ext 182 as=none:=rfl
theorem Ok:E.fn 183=some f183:=rfl
theorem Ol (as:List V):E.ext 183 as=none:=rfl
theorem Oo:E.fn 184=some f184:=rfl
theorem Oq (as:List V):E.ext 184 as=none:=rfl
theorem Ot:E.fn 552=some I1:=rfl
theorem Ou (as:List V):E.ext 552 as=none:=rfl
theorem Ov:E.fn 553=some Fo:=rfl
theorem Ow (as:List V):E.ext 553 as=none:=rfl
theorem Ox:E.fn 554=some I4:=rfl
theorem Oy (as:List V):E.ext 554 as=none:=rfl
theorem Oz:E.fn 555=some I6:=rfl
theorem OA (as:List V):E.ext 555 as=none:=rfl
theorem OB:E.fn 556=some I8:=rfl
theorem OC (as:List V):E.ext 556 as=none:=rfl
theorem Va:E.fn 41=some f41:=rfl
theorem Vb (as:List V):E.ext 41 as=none:=rfl
theorem OD:E.fn 216=some Ja:=rfl
theorem OE (as:List V):E.ext 216 as=none:=rfl
theorem OF:E.fn 557=some Jc:=rfl
theorem OG (as:List V):E.ext 557 as=none:=rfl
theorem Vc:E.fn 22=some f22:=rfl
theorem Vd (as:List V):E.ext 22 as=none:=rfl
theorem Ve:E.fn 23=some f23:=rfl
theorem Vf (as:List V):E.ext 23 as=none:=rfl
theorem OH:E.fn 113=some f113:=rfl
theorem OI (as:List V):E.ext 113 as=none:=rfl
theorem OJ:E.fn 114=some f114:=rfl
theorem OK (as:List V):E.ext 114 as=none:=rfl
theorem OL:E.fn 115=some f115:=rfl
theorem OM (as:List V):E.ext 115 as=none:=rfl
theorem ON:E.fn 116=some f116:=rfl
theorem OO (as:List V):E.ext 116 as=none:=rfl
theorem OP:E.fn 117=some f117:=rfl
theorem OQ (as:List V):E.ext 117 as=none:=rfl
theorem OR:E.fn 118=some f118:=rfl
theorem OS (as:List V):E.ext 118 as=none:=rfl
theorem OT:E.fn 119=some f119:=rfl
theorem OU (as:List V):E.ext 119 as=none:=rfl
theorem OV:E.fn 120=some f120:=rfl
theorem OW (as:List V):E.ext 120 as=none:=rfl
theorem OX:E.fn 121=some f121:=rfl
theorem OY (as:List V):E.ext 121 as=none:=rfl
theorem OZ:E.fn 122=some f122:=rfl
theorem O3 (as:List V):E.ext 122 as=none:=rfl
theorem O4:E.fn 187=some f187:=rfl
theorem O5 (as:List V):E.ext 187 as=none:=rfl
theorem O6:E.fn 220=some Jr:=rfl
theorem O7 (as:List V):E.ext 220 as=none:=rfl
theorem O8:E.fn 189=some f189:=rfl
theorem O9 (as:List V):E.ext 189 as=none:=rfl
theorem Pa:E.fn 222=some Ju:=rfl
theorem Pb (as:List V):E.ext 222 as=none:=rfl
theorem Pc:E.fn 565=some Jw:=rfl
theorem Pd (as:List V):E.ext 565 as=none:=rfl
theorem Pe:E.fn 566=some Jz:=rfl
theorem Pf (as:List V):E.ext 566 as=none:=rfl
theorem Pg:E.fn 186=some f186:=rfl
theorem Ph (as:List V):E.ext 186 as=none:=rfl
theorem Vg:E.fn 33=some f33:=rfl
theorem Vh (as:List V):E.ext 33 as=none:=rfl
theorem Vi:E.fn 36=some f36:=rfl
theorem Vj (as:List V):E.ext 36 as=none:=rfl
theorem Pj:E.fn 162=some f162:=rfl
theorem Pk (as:List V):E.ext 162 as=none:=rfl
theorem Pl:E.fn 163=some f163:=rfl
theorem Pm (as:List V):E.ext 163 as=none:=rfl
theorem Pn:E.fn 164=some f164:=rfl
theorem Po (as:List V):E.ext 164 as=none:=rfl
theorem Pp:E.fn 224=some JH:=rfl
theorem Pq (as:List V):E.ext 224 as=none:=rfl
theorem Pr:E.fn 227=some JJ:=rfl
theorem Ps (as:List V):E.ext 227 as=none:=rfl
theorem Pu:E.fn 251=some JL:=rfl
theorem Pv (as:List V):E.ext 251 as=none:=rfl
theorem Px:E.fn 252=some JN:=rfl
theorem Py (as:List V):E.ext 252 as=none:=rfl
theorem Pz:E.fn 253=some JP:=rfl
theorem PA (as:List V):E.ext 253 as=none:=rfl
theorem PB:E.fn 254=some JR:=rfl
theorem PC (as:List V):E.ext 254 as=none:=rfl
theorem PD:E.fn 255=some JT:=rfl
theorem PE (as:List V):E.ext 255 as=none:=rfl
theorem PF:E.fn 175=some f175:=rfl
theorem PG (as:List V):E.ext 175 as=none:=rfl
theorem PH:E.fn 223=some JW:=rfl
theorem PI (as:List V):E.ext 223 as=none:=rfl
theorem PJ:E.fn 429=some JY:=rfl
theorem PK (as:List V):E.ext 429 as=none:=rfl
theorem PL:E.fn 430=some J0:=rfl
theorem PM (as:List V):E.ext 430 as=none:=rfl
theorem PN:E.fn 198=some f198:=rfl
theorem PO (as:List V):E.ext 198 as=none:=rfl
theorem PQ:E.fn 199=some f199:=rfl
theorem PR (as:List V):E.ext 199 as=none:=rfl
theorem PS:E.fn 200=some f200:=rfl
theorem PT (as:List V):E.ext 200 as=none:=rfl
theorem PU:E.fn 201=some f201:=rfl
theorem PV (as:List V):E.ext 201 as=none:=rfl
theorem PW:E.fn 202=some f202:=rfl
theorem PX (as:List V):E.ext 202 as=none:=rfl
theorem PY:E.fn 282=some J7:=rfl
theorem PZ (as:List V):E.ext 282 as=none:=rfl
theorem P0:E.fn 271=some J9:=rfl
theorem P1 (as:List V):E.ext 271 as=none:=rfl
theorem P2:E.fn 259=some Kb:=rfl
theorem P3 (as:List V):E.ext 259 as=none:=rfl
theorem P4:E.fn 260=some Kd:=rfl
theorem P5 (as:List V):E.ext 260 as=none:=rfl
theorem P6:E.fn 276=some Kf:=rfl
theorem P7 (as:List V):E.ext 276 as=none:=rfl
theorem P8:E.fn 277=some Kh:=rfl
theorem P9 (as:List V):E.ext 277 as=none:=rfl
theorem Qa:E.fn 278=some Kj:=rfl
theorem Qb (as:List V):E.ext 278 as=none:=rfl
theorem Qc:E.fn 235=some Kl:=rfl
theorem Qd (as:List V):E.ext 235 as=none:=rfl
theorem Qe:E.fn 236=some Kn:=rfl
theorem Qf (as:List V):E.ext 236 as=none:=rfl
theorem Qg:E.fn 237=some Kq:=rfl
theorem Qh (as:List V):E.ext 237 as=none:=rfl
theorem Qi:E.fn 238=some Ks:=rfl
theorem Qj (as:List V):E.ext 238 as=none:=rfl
theorem Qk:E.fn 283=some Ku:=rfl
theorem Ql (as:List V):E.ext 283 as=none:=rfl
theorem Qm:E.fn 284=some Kw:=rfl
theorem Qn (as:List V):E.ext 284 as=none:=rfl
theorem Qo:E.fn 285=some Ky:=rfl
theorem Qp (as:List V):E.ext 285 as=none:=rfl
theorem Qq:E.fn 280=some KA:=rfl
theorem Qr (as:List V):E.ext 280 as=none:=rfl
theorem Qs:E.fn 287=some KC:=rfl
theorem Qt (as:List V):E.ext 287 as=none:=rfl
theorem Qu:E.fn 288=some KE:=rfl
theorem Qv (as:List V):E.ext 288 as=none:=rfl
theorem Qw:E.fn 289=some KG:=rfl
theorem Qx (as:List V):E.ext 289 as=none:=rfl
theorem Qy:E.fn 290=some KI:=rfl
theorem Qz (as:List V):E.ext 290 as=none:=rfl
theorem QA:E.fn 270=some KL:=rfl
theorem QB (as:List V):E.ext 270 as=none:=rfl
theorem QC:E.fn 298=some KN:=rfl
theorem QD (as:List V):E.ext 298 as=none:=rfl
theorem QE:E.fn 299=some KP:=rfl
theorem QF (as:List V):E.ext 299 as=none:=rfl
theorem QG:E.fn 300=some KR:=rfl
theorem QH (as:List V):E.ext 300 as=none:=rfl
theorem QI:E.fn 304=some KT:=rfl
theorem QJ (as:List V):E.ext 304 as=none:=rfl
theorem Vk (as:List V):E.ext 28 as=dQ 4 2872193639704 as:=rfl
theorem Vl (as:List V):E.ext 29 as=dQ 5 2469078742875 as:=rfl
theorem Vm (as:List V):E.ext 30 as=dQ 8 1450901941607 as:=rfl
theorem Vn (as:List V):E.ext 31 as=dQ 7 1927910799188 as:=rfl
theorem Vo (as:List V):E.ext 32 as=dQ 2 8278675785407 as:=rfl
theorem Vp (as:List V):E.ext 52 as=vU as:=rfl
end Go.AM
