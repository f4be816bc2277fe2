/-
  Texts of the proof, joined by program: AmFns. Own work.
-/
import Derived.Test.YtinmckmdbepjcaaBase
set_option linter.unusedSimpArgs false
set_option linter.unusedVariables false
namespace Go.AM
namespace Fx
abbrev t (n:Nat):aT:= .tmp n
abbrev i0:V:= .int .i64 0
abbrev mv (d n:Nat):bF:=od d (.move (t n))
abbrev mc (d:Nat) (n:Int):bF:=od d (.move (ic n))
abbrev ld (d n:Nat):bF:=od d (.load false 1 (t n))
abbrev la (d k n:Nat):bF:=od d (.load true k (t n))
abbrev fa (d k n:Nat):bF:=od d (.fieldAddr k (t n))
abbrev eq (d n:Nat) (k:Int):bF:=od d (.bin .eql (t n) (ic k))
abbrev ad (d n:Nat) (k:Int):bF:=od d (.bin .add (t n) (ic k))
abbrev ls (d n m:Nat):bF:=od d (.bin .lss (t n) (t m))
abbrev xt (d n k:Nat):bF:=od d (.extract (t n) k)
abbrev ln (d n:Nat):bF:=od d (.len (t n))
abbrev ca (d r f:Nat) (as:List aT):bF:=od d (.call r false (fc f) as)
abbrev og (d:Nat) (x:q9) (g:Nat) (b:Bool):bF:=⟨some d,x,some (g,b),[]⟩
abbrev rn (l:List bF):az:= .region l
abbrev sr (l:List bF) (x:az):az:= .seq (.region l) x
end Fx
open Fx
abbrev ZJ:az:=
  (sr [ls 68 67 66]
  (.seq (.cond (t 68)
  .skip
  (.exit 2))
  (.seq (.block 3 (sr [mv 69 67,mv 13 69]
  (sr [fa 70 1 11,ld 71 70,mv 72 13,od 73 (.indexAddr 5 (t 71) (t 72)),
 fa 74 4 73,ld 75 74,mv 76 10,od 77 (.bin .neq (t 75) (t 76))]
  (.cond (t 77)
  (.drawn [fa 78 1 11,op 79 (.load false 1 (t 78)) [0],mv 80 13,fa 81 1 11,
 op 82 (.load false 1 (t 81)) [3],mv 83 13,fa 84 1 11,op 85 (.load false 1 (t 84)) [6],
 mv 86 13,mv 87 2,op 88 (.indexAddr 5 (t 79) (t 80)) [1,2,0,1,2,9],op 89 (.fieldAddr 3 (t 88)) [10,0,1,2,9],
 ⟨none,.store false 1 (t 89) (t 87),none,[11,9,0,1,2,9]⟩,op 90 (.indexAddr 5 (t 82) (t 83)) [4,5,0,1,2,3,4,5,9,10,11,12],op 91 (.fieldAddr 2 (t 90)) [13,0,1,2,3,4,5,9,10,11,12],⟨none,.store false 1 (t 91) (.const (.str [111,116,104,101,114])),none,[14,12,0,1,2,3,4,5,9,10,11,12]⟩,
 op 92 (.indexAddr 5 (t 85) (t 86)) ([7,8]++rg 16),op 93 (.fieldAddr 4 (t 92)) ([16]++rg 16),⟨none,.store false 1 (t 93) (ic 99),none,([17,15]++rg 16)⟩])
  .skip))))
  (rn [ad 94 67 1,mv 67 94]))))
abbrev aah:az:=
  (sr [ls 21 20 19]
  (.seq (.cond (t 21)
  .skip
  (.exit 0))
  (.seq (.block 1 (sr [od 22 (.indexAddr 1 (t 18) (t 20)),ld 23 22,mv 10 23]
  (sr [la 24 4 8,od 25 (.call 416 true (fc 92) [(t 24)]),od 11 (.new 192 4 (.const (.agg [.lit 4 [],.lit 5 [],.lit 8 [],.lit 7 []]))),ow (.store true 4 (t 11) (t 25))]
  (sr [mv 26 1,od 27 (.j7 .i64 (t 26)),fa 28 0 11,ld 29 28,
 ln 30 29,od 31 (.bin .rem (t 27) (t 30)),mv 12 31]
  (.seq (.drawn [od 32 (.buildSlice 528 4 (.agg [i0,.nils,i0,i0]) 0 []),fa 33 0 11,op 34 (.load false 1 (t 33)) [1],mv 35 12,
 op 36 (.slice 4 (t 34) (some (t 35)) none none) [2,3],op 37 (.append 608 4 2872193639704 (t 32) (t 36)) [0,4],fa 38 0 11,op 39 (.load false 1 (t 38)) [6],
 mv 40 12,op 41 (.slice 4 (t 39) none (some (t 40)) none) [7,8],op 42 (.append 688 4 2872193639704 (t 37) (t 41)) [5,9,5],op 43 (.fieldAddr 0 (t 11)) (rg 11),
 ⟨none,.store false 1 (t 43) (t 42),none,([11,10,10]++rg 11)⟩])
  (sr [mv 44 1,od 45 (.j7 .i64 (t 44)),fa 46 1 11,ld 47 46,
 ln 48 47,od 49 (.bin .rem (t 45) (t 48)),mv 12 49]
  (.seq (.drawn [od 50 (.buildSlice 816 5 (.agg [i0,.str [],.str [],i0,i0]) 0 []),fa 51 1 11,op 52 (.load false 1 (t 51)) [1],mv 53 12,
 op 54 (.slice 5 (t 52) (some (t 53)) none none) [2,3],op 55 (.append 896 5 2469078742875 (t 50) (t 54)) [0,4],fa 56 1 11,op 57 (.load false 1 (t 56)) [6],
 mv 58 12,op 59 (.slice 5 (t 57) none (some (t 58)) none) [7,8],op 60 (.append 976 5 2469078742875 (t 55) (t 59)) [5,9,5],op 61 (.fieldAddr 1 (t 11)) (rg 11),
 ⟨none,.store false 1 (t 61) (t 60),none,([11,10,10]++rg 11)⟩])
  (sr [fa 62 2 11,ow (.store false 1 (t 62) (.const (.nils))),fa 63 3 11,ow (.store false 1 (t 63) (.const (.nils)))]
  (.seq (sr [fa 64 1 11,ld 65 64,ln 66 65,mc 67 0]
  (.block 2 (.loop ZJ)))
  (.seq (.drawn [la 95 4 11,mv 96 10,op 97 (.call 1568 false (fc 492) [(t 95),(t 96)]) [0,1],la 98 4 8,
 mv 99 10,op 100 (.call 1616 false (fc 492) [(t 98),(t 99)]) [3,4,2],op 101 (.call 1632 false (fc 491) [(t 97),(t 100)]) [2,5,5],op 102 (.un .not (t 101)) [6]])
  (.cond (t 102)
  (sr [od 6 (.move (.const (.bool false)))]
  .ret)
  .skip)))))))))))
  (rn [ad 103 20 1,mv 20 103]))))
def abo:az:=
 (sr [od 6 (.move (.const (.bool false)))]
 (sr [ca 14 240 483 [],mv 7 14]
 (sr [mv 15 0,ca 16 272 77 [(t 15)],od 8 (.new 144 4 (.const (.agg [.lit 4 [],.lit 5 [],.lit 8 [],.lit 7 []]))),ow (.store true 4 (t 8) (t 16))]
 (.seq (sr [la 17 4 8,ca 18 304 96 [(t 17)],ln 19 18,mc 20 0]
 (.block 0 (.loop aah)))
 (sr [mv 104 7,mv 6 104]
 .ret)))))
def abp:aZ:=⟨3,105,[],[.tmp 6],abo,none⟩
def Jz:az:=
  (sr [od 0 (.move (.const (.bool false)))]
  (sr [ca 12 208 499 [],od 13 (.call 224 true (fc 499) []),od 14 (.call 240 true (fc 499) []),od 1 (.new 32 4 (.const (.agg [.lit 4 [],.lit 5 [],.lit 8 [],.lit 7 []]))),
 od 2 (.new 48 4 (.const (.agg [.lit 4 [],.lit 5 [],.lit 8 [],.lit 7 []]))),od 3 (.new 64 4 (.const (.agg [.lit 4 [],.lit 5 [],.lit 8 [],.lit 7 []]))),ow (.store true 4 (t 1) (t 12)),ow (.store true 4 (t 2) (t 13)),
 ow (.store true 4 (t 3) (t 14))]
  (sr [fa 15 1 2,ld 16 15,od 17 (.indexAddr 5 (t 16) (ic 0)),fa 18 2 17,
 ow (.store false 1 (t 18) (.const (.str [77,111,111,114])))]
  (sr [fa 19 1 3,ld 20 19,od 21 (.indexAddr 5 (t 20) (ic 0)),fa 22 4 21,
 ow (.store false 1 (t 22) (ic 3))]
  (sr [la 23 4 1,ca 24 400 487 [(t 23),(ic 5),(ic 6)],eq 25 24 0,mv 26 25,
 og 27 (.load true 4 (t 1)) 26 true,og 28 (.call 464 false (fc 487) [(t 27),(ic 7),(ic 5)]) 26 true,og 29 (.bin .eql (t 28) (ic 0)) 26 true,od 30 (.pick (t 26) (t 29) (.const (.bool false))),
 mv 31 30,og 32 (.load true 4 (t 1)) 31 true,og 33 (.call 544 false (fc 487) [(t 32),(ic 6),(ic 7)]) 31 true,og 34 (.bin .eql (t 33) (ic 13)) 31 true,
 od 35 (.pick (t 31) (t 34) (.const (.bool false))),mv 36 35,og 37 (.load true 4 (t 1)) 36 true,og 38 (.call 624 false (fc 487) [(t 37),(ic 5),(ic 5)]) 36 true,
 og 39 (.bin .eql (t 38) (ic 1)) 36 true,od 40 (.pick (t 36) (t 39) (.const (.bool false))),mv 41 40,og 42 (.load true 4 (t 1)) 41 true,
 og 43 (.call 704 false (fc 487) [(t 42),(ic 5),(ic 8)]) 41 true,og 44 (.bin .eql (t 43) (ic 5)) 41 true,od 45 (.pick (t 41) (t 44) (.const (.bool false))),mv 46 45,
 og 47 (.load true 4 (t 2)) 46 true,og 48 (.call 784 false (fc 487) [(t 47),(ic 7),(ic 5)]) 46 true,og 49 (.bin .eql (t 48) (ic 24)) 46 true,od 50 (.pick (t 46) (t 49) (.const (.bool false))),
 mv 51 50,og 52 (.load true 4 (t 3)) 51 true,og 53 (.call 864 false (fc 487) [(t 52),(ic 7),(ic 5)]) 51 true,og 54 (.bin .eql (t 53) (ic 25)) 51 true,
 od 55 (.pick (t 51) (t 54) (.const (.bool false))),mv 4 55]
  (sr [la 57 4 1,ca 58 944 485 [(t 57),(ic 5),(ic 6)],mv 56 58,xt 59 56 0,
 xt 60 56 1,od 5 (.new 96 4 (.const (.agg [.lit 4 [],.lit 5 [],.lit 8 [],.lit 7 []]))),ow (.store true 4 (t 5) (t 59)),mv 6 60]
  (sr [la 62 4 1,ca 63 1024 485 [(t 62),(ic 7),(ic 5)],mv 61 63,xt 64 61 0,
 xt 65 61 1,od 7 (.new 128 4 (.const (.agg [.lit 4 [],.lit 5 [],.lit 8 [],.lit 7 []]))),ow (.store true 4 (t 7) (t 64)),mv 8 65]
  (sr [od 66 (.call 1072 true (fc 499) []),od 67 (.call 1088 true (fc 499) []),od 9 (.new 160 4 (.const (.agg [.lit 4 [],.lit 5 [],.lit 8 [],.lit 7 []]))),od 10 (.new 176 4 (.const (.agg [.lit 4 [],.lit 5 [],.lit 8 [],.lit 7 []]))),
 ow (.store true 4 (t 9) (t 66)),ow (.store true 4 (t 10) (t 67))]
  (.seq (.drawn [fa 68 0 9,op 69 (.load false 1 (t 68)) [0],fa 70 0 9,op 71 (.load false 1 (t 70)) [2],
 op 72 (.indexAddr 4 (t 69) (ic 0)) [1,0,1],op 73 (.fieldAddr 2 (t 72)) [4,0,1],⟨none,.store false 1 (t 73) (ic 6),none,[5,0,1]⟩,op 74 (.indexAddr 4 (t 71) (ic 3)) ([3]++rg 7),
 op 75 (.fieldAddr 3 (t 74)) ([7]++rg 7),⟨none,.store false 1 (t 75) (ic 6),none,([8,6]++rg 7)⟩])
  (.seq (.drawn [fa 76 0 9,op 77 (.load false 1 (t 76)) [0],op 78 (.slice 4 (t 77) none (some (ic 2)) none) [1],fa 79 0 9,
 op 80 (.load false 1 (t 79)) [3],op 81 (.indexAddr 4 (t 80) (ic 3)) [4],op 82 (.load true 4 (t 81)) [5],op 83 (.buildSlice 1344 4 (.agg [i0,.nils,i0,i0]) 1 [(0,(t 82))]) [6],
 op 84 (.append 1360 4 2872193639704 (t 78) (t 83)) [2,7],op 85 (.fieldAddr 0 (t 9)) (rg 9),⟨none,.store false 1 (t 85) (t 84),none,([9,8,8]++rg 9)⟩])
  (sr [fa 86 1 9,ld 87 86,od 88 (.slice 5 (t 87) (some (ic 1)) none none),fa 89 1 9,
 ow (.store false 1 (t 89) (t 88))]
  (sr [fa 90 1 9,ld 91 90,od 92 (.indexAddr 5 (t 91) (ic 0)),fa 93 3 92,
 ow (.store false 1 (t 93) (ic 255))]
  (.seq (.drawn [fa 94 0 10,op 95 (.load false 1 (t 94)) [0],op 96 (.slice 4 (t 95) none (some (ic 3)) none) [1],fa 97 1 10,
 op 98 (.load false 1 (t 97)) [3],op 99 (.slice 5 (t 98) none (some (ic 2)) none) [4],op 100 (.fieldAddr 0 (t 10)) (rg 5),⟨none,.store false 1 (t 100) (t 96),none,([6,2]++rg 5)⟩,
 op 101 (.fieldAddr 1 (t 10)) (rg 8),⟨none,.store false 1 (t 101) (t 99),none,([8,5,7]++rg 8)⟩])
  (.seq (.drawn [fa 102 1 10,op 103 (.load false 1 (t 102)) [0],fa 104 1 10,op 105 (.load false 1 (t 104)) [2],
 op 106 (.indexAddr 5 (t 103) (ic 0)) [1,0,1],op 107 (.fieldAddr 3 (t 106)) [4,0,1],⟨none,.store false 1 (t 107) (ic 10),none,[5,0,1]⟩,op 108 (.indexAddr 5 (t 105) (ic 0)) ([3]++rg 7),
 op 109 (.fieldAddr 2 (t 108)) ([7]++rg 7),⟨none,.store false 1 (t 109) (.const (.str [72,111,108,109])),none,([8,6]++rg 7)⟩])
  (sr [od 110 (.build [i0,i0,i0,i0,i0] [(0,1,(ic 2)),(1,1,(ic 36)),(2,1,(ic 5)),(3,1,(ic 6))]),od 111 (.build [i0,i0,i0,i0,i0] [(0,1,(ic 2)),(1,1,(ic 1000)),(2,1,(ic 6)),(3,1,(ic 5))]),od 112 (.build [i0,i0,i0,i0,i0] [(0,1,(ic 2)),(1,1,(ic 4)),(2,1,(ic 7)),(3,1,(ic 5))]),od 113 (.buildSlice 1824 5 (.agg [i0,i0,i0,i0,i0]) 3 [(0,(t 110)),(1,(t 111)),(2,(t 112))]),
 od 11 (.nO 193 (t 113))]
  (sr [mv 114 4,mv 115 114,og 116 (.move (t 6)) 115 true,og 117 (.bin .eql (t 116) (ic 0)) 115 true,
 od 118 (.pick (t 115) (t 117) (.const (.bool false))),mv 119 118,og 120 (.move (t 8)) 119 true,og 121 (.bin .eql (t 120) (ic 0)) 119 true,
 od 122 (.pick (t 119) (t 121) (.const (.bool false))),mv 123 122,og 124 (.load true 4 (t 5)) 123 true,og 125 (.load true 4 (t 9)) 123 true,
 og 126 (.call 2032 false (fc 89) [(t 124),(t 125)]) 123 true,od 127 (.pick (t 123) (t 126) (.const (.bool false))),mv 128 127,og 129 (.load true 4 (t 7)) 128 true,
 og 130 (.load true 4 (t 10)) 128 true,og 131 (.call 2112 false (fc 89) [(t 129),(t 130)]) 128 true,od 132 (.pick (t 128) (t 131) (.const (.bool false))),mv 133 132,
 og 134 (.load true 4 (t 1)) 133 true,og 135 (.call 2176 false (fc 492) [(t 134),(ic 2)]) 133 true,og 136 (.move (t 11)) 133 true,og 137 (.call 2208 false (fc 491) [(t 135),(t 136)]) 133 true,
 od 138 (.pick (t 133) (t 137) (.const (.bool false))),mv 0 138]
  .ret))))))))))))))))
def Nm:aZ:=⟨0,139,[],[.tmp 0],Jz,none⟩
abbrev JA:az:=
  (.seq (sr [mv 22 5,fa 23 1 3,ld 24 23,ln 25 24,
 ls 26 22 25]
  (.cond (t 26)
  .skip
  (.exit 0)))
  (.seq (.block 1 (sr [fa 29 1 3,ld 30 29,mv 31 5,od 32 (.indexAddr 5 (t 30) (t 31)),
 mv 6 32]
  (sr [mv 33 6,od 34 (.buildSlice 560 1 (.str []) 3 [(0,(.const (.str [102,105,101,108,100]))),(1,(.const (.str [119,111,111,100]))),(2,(.const (.str [108,97,107,101])))]),mv 35 4,ca 36 592 85 [(t 35),(ic 3)],
 od 37 (.indexAddr 1 (t 34) (t 36)),ld 38 37,od 39 (.nilCheck (t 33)),fa 40 1 39,
 ow (.store false 1 (t 40) (t 38))]
  (sr [mv 41 6,od 42 (.buildSlice 688 1 (.str []) 6 [(0,(.const (.str []))),(1,(.const (.str []))),(2,(.const (.str []))),(3,(.const (.str [77,111,111,114]))),(4,(.const (.str [72,111,108,109]))),(5,(.const (.str [78,111,114,116,104,32,77,111,111,114])))]),mv 43 4,ca 44 720 85 [(t 43),(ic 6)],
 od 45 (.indexAddr 1 (t 42) (t 44)),ld 46 45,od 47 (.nilCheck (t 41)),fa 48 2 47,
 ow (.store false 1 (t 48) (t 46))]
  (sr [mv 49 6,mv 50 4,ca 51 832 85 [(t 50),(ic 60)],od 52 (.bin .add (ic 1) (t 51)),
 od 53 (.nilCheck (t 49)),fa 54 3 53,ow (.store false 1 (t 54) (t 52))]
  (rn [mv 55 6,mv 56 4,ca 57 928 85 [(t 56),(ic 4)],mv 58 4,
 ca 59 960 85 [(t 58),(ic 2)],od 60 (.bin .mul (t 57) (t 59)),od 61 (.bin .rem (t 60) (ic 3)),od 62 (.bin .add (ic 1) (t 61)),
 od 63 (.nilCheck (t 55)),fa 64 4 63,ow (.store false 1 (t 64) (t 62))]))))))
  (rn [mv 27 5,ad 28 27 1,mv 5 28])))
def Nn:az:=
  (sr [od 2 (.new 48 4 (.const (.agg [.lit 4 [],.lit 5 [],.lit 8 [],.lit 7 []])))]
  (sr [od 3 (.new 64 4 (.const (.agg [.lit 4 [],.lit 5 [],.lit 8 [],.lit 7 []])))]
  (sr [mv 8 0,mv 9 0,ln 10 9,od 11 (.min [(t 10),(ic 3)]),
 od 12 (.slice 1 (t 8) none (some (t 11)) none),od 13 (.call 224 true (fc 83) [(t 12)]),mv 7 13,xt 14 7 0,
 xt 15 7 1,fa 16 0 3,ow (.store false 1 (t 16) (t 14)),fa 17 1 3,
 ow (.store false 1 (t 17) (t 15))]
  (sr [mv 18 0,ca 19 320 84 [(t 18),(ic 3)],od 20 (.build [.lit 1 [],i0] [(0,1,(t 19))]),od 21 (.new 352 2 (t 20)),
 mv 4 21]
  (.seq (sr [mc 5 0]
  (.block 0 (.loop JA)))
  (sr [mv 65 0,ca 66 1072 84 [(t 65),(ic 4)],od 67 (.call 1088 true (fc 86) [(t 66)]),fa 68 2 3,
 ow (.store false 1 (t 68) (t 67))]
  (.seq (.drawn [la 69 4 3,mv 70 0,op 71 (.call 1152 false (fc 84) [(t 70),(ic 5)]) [1],op 72 (.call 1168 true (fc 87) [(t 69),(t 71)]) [0,2,2],
 op 73 (.fieldAddr 3 (t 3)) [0,1,2,3],⟨none,.store false 1 (t 73) (t 72),none,[4,3,3,0,1,2,3]⟩])
  (sr [la 74 4 3,ow (.store true 4 (t 2) (t 74))]
  .ret))))))))
def f77:aZ:=⟨1,75,[],[.cell 2 true 4],Nn,none⟩
abbrev aaB:az:=
  (sr [ls 14 13 12]
  (.seq (.cond (t 14)
  .skip
  (.exit 0))
  (.seq (.block 1 (sr [od 15 (.indexAddr 5 (t 11) (t 13)),la 16 5 15,od 5 (.new 96 5 (.const (.agg [i0,.str [],.str [],i0,i0]))),ow (.store true 5 (t 5) (t 16))]
  (rn [mv 17 3,fa 18 4 5,ld 19 18,od 20 (.buildSlice 336 1 (i0) 1 [(0,(t 19))]),
 od 21 (.append 65 1 15637498705947 (t 17) (t 20)),od 3 (.nO 65 (t 21))])))
  (rn [ad 22 13 1,mv 13 22]))))
abbrev aaC:az:=
  (sr [ls 27 26 25]
  (.seq (.cond (t 27)
  .skip
  (.exit 2))
  (.seq (.block 3 (sr [od 28 (.indexAddr 8 (t 24) (t 26)),la 29 8 28,od 7 (.new 128 8 (.const (.agg [i0,.lit 2 [],i0,.str [],.str [],.bool false,i0,i0]))),ow (.store true 8 (t 7) (t 29))]
  (rn [mv 30 3,fa 31 7 7,ld 32 31,od 33 (.buildSlice 544 1 (i0) 1 [(0,(t 32))]),
 od 34 (.append 65 1 15637498705947 (t 30) (t 33)),od 3 (.nO 65 (t 34))])))
  (rn [ad 35 26 1,mv 26 35]))))
abbrev aaD:az:=
  (sr [ls 40 39 38]
  (.seq (.cond (t 40)
  .skip
  (.exit 4))
  (.seq (.block 5 (sr [od 41 (.indexAddr 7 (t 37) (t 39)),la 42 7 41,od 9 (.new 160 7 (.const (.agg [i0,i0,i0,.str [],.str [],i0,i0]))),ow (.store true 7 (t 9) (t 42))]
  (rn [mv 43 3,fa 44 6 9,ld 45 44,od 46 (.buildSlice 752 1 (i0) 1 [(0,(t 45))]),
 od 47 (.append 65 1 15637498705947 (t 43) (t 46)),od 3 (.nO 65 (t 47))])))
  (rn [ad 48 39 1,mv 39 48]))))
def abT:az:=
 (sr [od 1 (.new 32 4 (t 0)),od 2 (.move (.const (.lit 1 [])))]
 (sr [od 3 (.cU 65 1)]
 (.seq (sr [fa 10 1 1,ld 11 10,ln 12 11,mc 13 0]
 (.block 0 (.loop aaB)))
 (.seq (sr [fa 23 2 1,ld 24 23,ln 25 24,mc 26 0]
 (.block 2 (.loop aaC)))
 (.seq (sr [fa 36 3 1,ld 37 36,ln 38 37,mc 39 0]
 (.block 4 (.loop aaD)))
 (sr [mv 49 3,ca 50 816 132 [(t 49)]]
 (sr [mv 51 3,ca 52 848 133 [(t 51)],mv 2 52]
 .ret)))))))
def f96:aZ:=⟨1,53,[],[.tmp 2],abT,none⟩
abbrev J2:az:=
  (.seq (sr [mv 17 4,fa 18 0 1,ld 19 18,ln 20 19,
 ls 21 17 20]
  (.cond (t 21)
  .skip
  (.exit 0)))
  (.seq (.block 1 (sr [fa 24 0 1,ld 25 24,mv 26 4,od 27 (.indexAddr 4 (t 25) (t 26)),
 la 28 4 27,od 5 (.new 96 4 (.const (.agg [i0,.lit 2 [],i0,i0]))),ow (.store true 4 (t 5) (t 28))]
  (sr [fa 29 1 5,ld 30 29,ca 31 512 130 [(t 30)],fa 32 1 5,
 ow (.store false 1 (t 32) (t 31))]
  (rn [fa 33 0 3,ld 34 33,la 35 4 5,od 36 (.buildSlice 592 4 (.agg [i0,.nils,i0,i0]) 1 [(0,(t 35))]),
 od 37 (.append 66 4 2872193639704 (t 34) (t 36)),fa 38 0 3,ow (.store false 1 (t 38) (t 37))]))))
  (rn [mv 22 4,ad 23 22 1,mv 4 23])))
abbrev J3:az:=
  (.seq (sr [mv 39 6,fa 40 2 1,ld 41 40,ln 42 41,
 ls 43 39 42]
  (.cond (t 43)
  .skip
  (.exit 2)))
  (.seq (.block 3 (sr [fa 46 2 1,ld 47 46,mv 48 6,od 49 (.indexAddr 8 (t 47) (t 48)),
 la 50 8 49,od 7 (.new 128 8 (.const (.agg [i0,.lit 2 [],i0,.str [],.str [],.bool false,i0,i0]))),ow (.store true 8 (t 7) (t 50))]
  (sr [fa 51 1 7,ld 52 51,ca 53 864 130 [(t 52)],fa 54 1 7,
 ow (.store false 1 (t 54) (t 53))]
  (rn [fa 55 2 3,ld 56 55,la 57 8 7,od 58 (.buildSlice 944 8 (.agg [i0,.nils,i0,.str [],.str [],.bool false,i0,i0]) 1 [(0,(t 57))]),
 od 59 (.append 68 8 1450901941607 (t 56) (t 58)),fa 60 2 3,ow (.store false 1 (t 60) (t 59))]))))
  (rn [mv 44 6,ad 45 44 1,mv 6 45])))
def Nz:az:=
  (sr [od 1 (.new 32 4 (t 0)),od 2 (.new 48 4 (.const (.agg [.lit 4 [],.lit 5 [],.lit 8 [],.lit 7 []])))]
  (.seq (.drawn [od 8 (.buildSlice 144 5 (.agg [i0,.str [],.str [],i0,i0]) 0 []),fa 9 1 1,op 10 (.load false 1 (t 9)) [1],op 11 (.append 192 5 2469078742875 (t 8) (t 10)) [0,2],
 od 12 (.buildSlice 208 7 (.agg [i0,i0,i0,.str [],.str [],i0,i0]) 0 []),fa 13 3 1,op 14 (.load false 1 (t 13)) [5],op 15 (.append 256 7 1927910799188 (t 12) (t 14)) [4,6,3],
 op 16 (.build [.nils,.lit 5 [],.nils,.lit 7 []] [(1,1,(t 11)),(3,1,(t 15))]) [3,7],od 3 (.new 64 4 (.const (.agg [.nils,.lit 5 [],.nils,.lit 7 []]))),⟨none,.store true 4 (t 3) (t 16),none,([9,8,7]++rg 10)⟩])
  (.seq (sr [mc 4 0]
  (.block 0 (.loop J2)))
  (.seq (sr [mc 6 0]
  (.block 2 (.loop J3)))
  (sr [la 61 4 3,ow (.store true 4 (t 2) (t 61))]
  .ret)))))
def f92:aZ:=⟨1,62,[],[.cell 2 true 4],Nz,none⟩
abbrev GW:az:=
  (.seq (sr [mv 11 5,mv 12 0,ln 13 12,ls 14 11 13]
  (.cond (t 14)
  .skip
  (.exit 0)))
  (.seq (.block 1 (.seq (.drawn [mv 17 0,mv 18 5,op 19 (.indexAddr 5 (t 17) (t 18)) [0,1],op 20 (.load true 5 (t 19)) [2],
 mv 21 1,mv 22 5,op 23 (.indexAddr 5 (t 21) (t 22)) [4,5],op 24 (.load true 5 (t 23)) [6],
 op 25 (.Gz true [1,1,1,1,1] (t 20) (t 24)) [3,7]])
  (.cond (t 25)
  (sr [od 4 (.move (.const (.bool false)))]
  .ret)
  .skip)))
  (rn [mv 15 5,ad 16 15 1,mv 5 16])))
def JP:az:=
  (sr [od 4 (.move (.const (.bool false)))]
  (.seq (sr [mv 6 0,ln 7 6,mv 8 1,ln 9 8,
 od 10 (.bin .neq (t 7) (t 9))]
  (.cond (t 10)
  (sr [od 4 (.move (.const (.bool false)))]
  .ret)
  .skip))
  (.seq (sr [mc 5 0]
  (.block 0 (.loop GW)))
  (sr [od 4 (.move (.const (.bool true)))]
  .ret))))
def Nr:aZ:=⟨2,26,[],[.tmp 4],JP,none⟩
abbrev GX:az:=
 (sr [xt 20 19 0]
 (.cond (t 20)
 .skip
 (.exit 0)))
abbrev GY:az:=
  (.block 1 (sr [xt 22 21 0,mv 7 22]
  (rn [mv 23 6,mv 24 7,od 25 (.buildSlice 416 1 (i0) 1 [(0,(t 24))]),od 26 (.append 113 1 15637498705947 (t 23) (t 25)),
 od 6 (.nO 113 (t 26))])))
abbrev GZ:az:=
 (rn [mv 27 6,ca 28 464 132 [(t 27)]])
abbrev G0:az:=
  (sr [ls 32 31 30]
  (.seq (.cond (t 32)
  .skip
  (.exit 2))
  (.seq (.block 3 (sr [od 33 (.indexAddr 1 (t 29) (t 31)),ld 34 33,od 10 (.new 176 1 (ic 0)),ow (.store false 1 (t 10) (t 34))]
  (.seq (sr [mv 35 1,od 36 (.bin .lss (t 35) (ic 1)),mv 37 36,og 38 (.load false 1 (t 5)) 37 false,
 og 39 (.load false 1 (t 10)) 37 false,og 40 (.iN (some .i64) false (.nilp) (t 38) (t 39)) 37 false,og 41 (.nilCheck (t 40)) 37 false,og 42 (.fieldAddr 4 (t 41)) 37 false,
 og 43 (.load false 1 (t 42)) 37 false,og 44 (.move (t 1)) 37 false,og 45 (.bin .neq (t 43) (t 44)) 37 false,od 46 (.pick (t 37) (.const (.bool true)) (t 45))]
  (.cond (t 46)
  (.exit 3)
  .skip))
  (sr [mv 47 6,od 48 (.call 784 true (fc 149) [(t 47)]),od 49 (.lE 506 [(t 2),(t 5),(t 10)]),ca 50 816 505 [(t 48),(t 49)],
 od 11 (.nO 193 (t 50))]
  (sr [od 51 (.lE 507 [(t 2),(t 10)]),mv 12 51]
  (sr [mv 53 11,mv 54 12,ca 55 896 508 [(t 53),(t 54)],mv 52 55,
 xt 56 52 0,xt 57 52 1,mv 13 56,mv 14 57]
  (sr [mv 58 14]
  (.cond (t 58)
  (.drawn [mv 59 8,ld 60 5,ld 61 10,op 62 (.iN (some .i64) false (.nilp) (t 60) (t 61)) [1,2],
 op 63 (.nilCheck (t 62)) [3],op 64 (.fieldAddr 3 (t 63)) [4],op 65 (.load false 1 (t 64)) [5],op 66 (.bin .mul (ic 4) (t 65)) [6],
 op 67 (.max [(ic 1),(t 66)]) [7],ld 68 10,mv 69 13,op 70 (.build [i0,i0,i0,i0,i0] [(0,1,(ic 2)),(1,1,(t 67)),(2,1,(t 68)),(3,1,(t 69))]) [8,9,10],
 op 71 (.buildSlice 1152 5 (.agg [i0,i0,i0,i0,i0]) 1 [(0,(t 70))]) [11],op 72 (.append 145 5 3432621667003 (t 59) (t 71)) [0,12],op 8 (.nO 145 (t 72)) ([13,13]++rg 14)])
  .skip))))))))
  (rn [ad 73 31 1,mv 31 73]))))
def JQ:az:=
 (sr [od 2 (.new 48 4 (t 0)),od 4 (.cU 81 5)]
 (sr [la 15 4 2,ca 16 272 500 [(t 15)],od 5 (.new 96 1 (.const (.mlit []))),ow (.store false 1 (t 5) (t 16))]
 (sr [od 6 (.cU 113 1)]
 (sr [ld 17 5,od 18 (.mapIter 304 (t 17))]
 (.seq (.keys 18 19 21 0 [1,2,5,6] [48,96,113] GX GY GZ)
 (sr [od 8 (.cU 145 5)]
 (.seq (sr [mv 29 6,ln 30 29,mc 31 0]
 (.block 2 (.loop G0)))
 (sr [mv 74 8,mv 4 74]
 .ret))))))))
def Ns:aZ:=⟨2,75,[],[.tmp 4],JQ,none⟩
def JU:az:=
  (sr [od 0 (.new 16 4 (.const (.agg [.lit 4 [],.lit 5 [],.lit 8 [],.lit 7 []])))]
  (sr [od 1 (.move (fc 512))]
  (sr [mv 5 1,od 6 (.call 112 false (t 5) [(ic 0),(ic 0)]),mv 7 1,od 8 (.call 144 false (t 7) [(ic 10),(ic 10)]),
 od 2 (.new 48 2 (.const (.agg [i0,i0]))),od 3 (.new 64 2 (.const (.agg [i0,i0]))),ow (.store true 2 (t 2) (t 6)),ow (.store true 2 (t 3) (t 8))]
  (sr [od 4 (.new 80 4 (.const (.agg [.nils,.lit 5 [],.lit 8 [],.lit 7 []])))]
  (.seq (.drawn [la 9 2 2,mv 10 1,op 11 (.call 192 false (t 10) [(ic 10),(ic 0)]) [1],la 12 2 3,
 op 13 (.buildSlice 224 2 (.agg [i0,i0]) 3 [(0,(t 9)),(1,(t 11)),(2,(t 12))]) [0,2,3],op 14 (.build [i0,.lit 2 [],i0,i0] [(0,1,(ic 1)),(1,1,(t 13)),(2,1,(ic 5))]) [4],la 15 2 3,mv 16 1,
 op 17 (.call 288 false (t 16) [(ic 0),(ic 10)]) [7,2],la 18 2 2,op 19 (.buildSlice 320 2 (.agg [i0,i0]) 3 [(0,(t 15)),(1,(t 17)),(2,(t 18))]) [6,8,9],op 20 (.build [i0,.lit 2 [],i0,i0] [(0,1,(ic 2)),(1,1,(t 19)),(2,1,(ic 6))]) [10],
 la 21 2 2,la 22 2 3,op 23 (.buildSlice 384 2 (.agg [i0,i0]) 2 [(0,(t 21)),(1,(t 22))]) [12,13],op 24 (.build [i0,.lit 2 [],i0,i0] [(0,1,(ic 3)),(1,1,(t 23)),(2,1,(ic 6)),(3,1,(ic 5))]) [14],
 op 25 (.buildSlice 416 4 (.agg [i0,.nils,i0,i0]) 3 [(0,(t 14)),(1,(t 20)),(2,(t 24))]) [5,11,15],op 26 (.fieldAddr 0 (t 4)) (rg 17),⟨none,.store false 1 (t 26) (t 25),none,([17,16,8]++rg 17)⟩])
  (.seq (.drawn [fa 27 0 4,op 28 (.load false 1 (t 27)) [0],mv 29 1,op 30 (.call 496 false (t 29) [(ic 4),(ic 1)]) [2],
 mv 31 1,op 32 (.call 528 false (t 31) [(ic 6),(ic 1)]) [4,3],mv 33 1,op 34 (.call 560 false (t 33) [(ic 6),(ic 3)]) [6,5],
 mv 35 1,op 36 (.call 592 false (t 35) [(ic 4),(ic 1)]) [8,7],op 37 (.buildSlice 608 2 (.agg [i0,i0]) 4 [(0,(t 30)),(1,(t 32)),(2,(t 34)),(3,(t 36))]) [3,5,7,9],op 38 (.build [i0,.lit 2 [],i0,i0] [(0,1,(ic 4)),(1,1,(t 37)),(2,1,(ic 7)),(3,1,(ic 5))]) [10],
 op 39 (.buildSlice 640 4 (.agg [i0,.nils,i0,i0]) 1 [(0,(t 38))]) [11],op 40 (.append 82 4 2872193639704 (t 28) (t 39)) [1,12,9],op 41 (.fieldAddr 0 (t 4)) (rg 14),⟨none,.store false 1 (t 41) (t 40),none,([14,13,13]++rg 14)⟩])
  (sr [od 42 (.build [i0,.str [],.str [],i0,i0] [(0,1,(ic 5)),(1,1,(.const (.str [102,105,101,108,100]))),(3,1,(ic 9)),(4,1,(ic 2))]),od 43 (.build [i0,.str [],.str [],i0,i0] [(0,1,(ic 6)),(1,1,(.const (.str [102,105,101,108,100]))),(2,1,(.const (.str [77,111,111,114]))),(3,1,(ic 250)),(4,1,(ic 2))]),od 44 (.build [i0,.str [],.str [],i0,i0] [(0,1,(ic 7)),(1,1,(.const (.str [108,97,107,101]))),(2,1,(.const (.str [72,111,108,109]))),(3,1,(ic 1)),(4,1,(ic 2))]),od 45 (.buildSlice 736 5 (.agg [i0,.str [],.str [],i0,i0]) 3 [(0,(t 42)),(1,(t 43)),(2,(t 44))]),
 fa 46 1 4,ow (.store false 1 (t 46) (t 45))]
  (sr [la 47 4 4,ow (.store true 4 (t 0) (t 47))]
  .ret))))))))
def Nu:aZ:=⟨0,48,[],[.cell 0 true 4],JU,none⟩
def JM:az:=
  (sr [od 3 (.new 64 4 (t 0)),mc 6 0]
  (.seq (.drawn [la 7 4 3,la 8 4 3,op 9 (.call 160 false (fc 500) [(t 8)]) [1],mv 10 1,
 mv 11 2,op 12 (.call 208 false (fc 501) [(t 7),(t 9),(t 10),(t 11)]) [0,2,3,4,2],op 6 (.move (t 12)) ([5,5]++rg 6)])
  .ret))
def Nq:aZ:=⟨3,13,[],[.tmp 6],JM,none⟩
abbrev BA:az:=
  (sr [ls 41 40 39]
  (.seq (.cond (t 41)
  .skip
  (.exit 0))
  (.seq (.block 1 (sr [od 42 (.indexAddr 8 (t 38) (t 40)),la 43 8 42,od 12 (.new 208 8 (.const (.agg [i0,.lit 2 [],i0,.str [],.str [],.bool false,i0,i0]))),ow (.store true 8 (t 12) (t 43))]
  (sr [fa 44 1 12,ld 45 44,ca 46 752 32 [(t 45)],fa 47 1 12,
 ow (.store false 1 (t 47) (t 46))]
  (rn [fa 48 2 10,ld 49 48,la 50 8 12,od 51 (.buildSlice 832 8 (.agg [i0,.nils,i0,.str [],.str [],.bool false,i0,i0]) 1 [(0,(t 50))]),
 od 52 (.append 180 8 1450901941607 (t 49) (t 51)),fa 53 2 10,ow (.store false 1 (t 53) (t 52))]))))
  (rn [ad 54 40 1,mv 40 54]))))
abbrev nT:az:=
  (sr [ls 60 59 58]
  (.seq (.cond (t 60)
  .skip
  (.exit 2))
  (.seq (.block 3 (sr [od 61 (.indexAddr 4 (t 57) (t 59)),la 62 4 61,od 15 (.new 256 4 (.const (.agg [i0,.lit 2 [],i0,i0]))),ow (.store true 4 (t 15) (t 62))]
  (.seq (.drawn [mv 63 13,fa 64 2 15,op 65 (.load false 1 (t 64)) [1],op 66 (.call 1072 false (t 63) [(t 65)]) [0,2],
 mv 67 13,fa 68 3 15,op 69 (.load false 1 (t 68)) [5],op 70 (.call 1136 false (t 67) [(t 69)]) [4,6,3],
 op 16 (.move (t 66)) [3,7,0,1,2,3],op 17 (.move (t 70)) ([7,8]++rg 9)])
  (.seq (sr [mv 71 16,ld 72 5,od 73 (.bin .eql (t 71) (t 72)),mv 74 73,
 og 75 (.move (t 17)) 74 true,og 76 (.load false 1 (t 5)) 74 true,og 77 (.bin .eql (t 75) (t 76)) 74 true,od 78 (.pick (t 74) (t 77) (.const (.bool false))),
 mv 79 78,og 80 (.fieldAddr 2 (t 15)) 79 true,og 81 (.load false 1 (t 80)) 79 true,og 82 (.fieldAddr 3 (t 15)) 79 true,
 og 83 (.load false 1 (t 82)) 79 true,og 84 (.bin .neq (t 81) (t 83)) 79 true,od 85 (.pick (t 79) (t 84) (.const (.bool false)))]
  (.cond (t 85)
  (.exit 3)
  .skip))
  (sr [fa 86 1 15,ld 87 86,ca 88 1424 32 [(t 87)],fa 89 1 15,
 ow (.store false 1 (t 89) (t 88))]
  (sr [mv 90 16,mv 91 17,fa 92 2 15,ow (.store false 1 (t 92) (t 90)),
 fa 93 3 15,ow (.store false 1 (t 93) (t 91))]
  (rn [fa 94 0 10,ld 95 94,la 96 4 15,od 97 (.buildSlice 1568 4 (.agg [i0,.nils,i0,i0]) 1 [(0,(t 96))]),
 od 98 (.append 178 4 2872193639704 (t 95) (t 97)),fa 99 0 10,ow (.store false 1 (t 99) (t 98))])))))))
  (rn [ad 100 59 1,mv 59 100]))))
abbrev th:az:=
  (sr [ls 111 110 109]
  (.seq (.cond (t 111)
  .skip
  (.exit 4))
  (.seq (.block 5 (sr [mv 112 110,mv 20 112]
  (sr [fa 113 1 3,ld 114 113,mv 115 20,od 116 (.indexAddr 5 (t 114) (t 115)),
 la 117 5 116,od 21 (.new 352 5 (.const (.agg [i0,.str [],.str [],i0,i0]))),ow (.store true 5 (t 21) (t 117))]
  (.seq (sr [fa 118 1 3,ld 119 118,mv 120 20,od 121 (.indexAddr 5 (t 119) (t 120))]
  (.block 6 (sr [mv 123 18,od 124 (.D7 false (t 121) (t 123)),mv 122 124]
  (.cond (t 122)
  (.exit 5)
  (sr [mv 126 19,od 127 (.D7 false (t 121) (t 126)),mv 125 127]
  (.cond (t 125)
  (.seq (.drawn [fa 128 3 21,op 129 (.load false 1 (t 128)) [0],mv 130 18,op 131 (.nilCheck (t 130)) [2],
 op 132 (.fieldAddr 3 (t 131)) [3],op 133 (.load false 1 (t 132)) [4],op 134 (.bin .add (t 129) (t 133)) [1,5],op 135 (.min [(t 134),(ic 255)]) [6],
 op 136 (.fieldAddr 3 (t 21)) (rg 8),⟨none,.store false 1 (t 136) (t 135),none,([8,7]++rg 8)⟩])
  (.drawn [fa 137 2 21,op 138 (.load false 1 (t 137)) [0],mv 139 18,op 140 (.nilCheck (t 139)) [2],
 op 141 (.fieldAddr 2 (t 140)) [3],op 142 (.load false 1 (t 141)) [4],op 143 (.buildSlice 2304 1 (.str []) 2 [(0,(t 138)),(1,(t 142))]) [1,5],op 144 (.call 2320 false (fc 17) [(t 143)]) [6],
 op 145 (.fieldAddr 2 (t 21)) (rg 8),⟨none,.store false 1 (t 145) (t 144),none,([8,7,7]++rg 8)⟩]))
  .skip))))))
  (rn [fa 146 1 10,ld 147 146,la 148 5 21,od 149 (.buildSlice 2400 5 (.agg [i0,.str [],.str [],i0,i0]) 1 [(0,(t 148))]),
 od 150 (.append 179 5 2469078742875 (t 147) (t 149)),fa 151 1 10,ow (.store false 1 (t 151) (t 150))])))))
  (rn [ad 152 110 1,mv 110 152]))))
def JE:az:=
  (sr [od 3 (.new 64 4 (t 0)),od 4 (.new 80 1 (t 1)),od 5 (.new 96 1 (t 2)),od 6 (.new 112 4 (.const (.agg [.lit 4 [],.lit 5 [],.lit 8 [],.lit 7 []]))),
 mc 7 0]
  (sr [la 22 4 3,ca 23 384 500 [(t 22)],mv 8 23]
  (.seq (sr [la 24 4 3,mv 25 8,ld 26 4,ld 27 5,
 ca 28 464 501 [(t 24),(t 25),(t 26),(t 27)],mv 9 28]
  (sr [mv 29 9,od 30 (.bin .neq (t 29) (ic 0))]
  (.cond (t 30)
  (sr [od 31 (.build [.lit 4 [],.lit 5 [],.lit 8 [],.lit 7 []] []),mv 32 9,ow (.store true 4 (t 6) (t 31)),mv 7 32]
  .ret)
  .skip)))
  (sr [fa 33 3 3,ld 34 33,od 35 (.call 576 true (fc 31) [(t 34)]),od 36 (.build [.nils,.nils,.nils,.lit 7 []] [(3,1,(t 35))]),
 od 10 (.new 176 4 (.const (.agg [.nils,.nils,.nils,.lit 7 []]))),ow (.store true 4 (t 10) (t 36))]
  (.seq (sr [fa 37 2 3,ld 38 37,ln 39 38,mc 40 0]
  (.block 0 (.loop BA)))
  (sr [od 55 (.lE 502 [(t 4),(t 5)]),mv 13 55]
  (.seq (sr [fa 56 0 3,ld 57 56,ln 58 57,mc 59 0]
  (.block 2 (.loop nT)))
  (.seq (.drawn [mv 101 8,ld 102 4,op 103 (.iN (some .i64) false (.nilp) (t 101) (t 102)) [0,1],mv 104 8,
 ld 105 5,op 106 (.iN (some .i64) false (.nilp) (t 104) (t 105)) [3,4],op 18 (.move (t 103)) [2,0,1,2],op 19 (.move (t 106)) ([5,6]++rg 7)])
  (.seq (sr [fa 107 1 3,ld 108 107,ln 109 108,mc 110 0]
  (.block 4 (.loop th)))
  (sr [od 153 (.oI [4,5,8,7] true 4 (t 10)),ow (.store true 4 (t 6) (t 153)),mc 7 0]
  .ret))))))))))
def JF:aZ:=⟨3,154,[],[.cell 6 true 4,.tmp 7],JE,(some (0,1))⟩
abbrev JI:az:=
  (.seq (sr [mv 45 5,fa 46 0 2,ld 47 46,ln 48 47,
 ls 49 45 48]
  (.cond (t 49)
  .skip
  (.exit 0)))
  (.seq (.block 1 (.seq (.drawn [fa 52 0 2,op 53 (.load false 1 (t 52)) [0],mv 54 5,op 55 (.indexAddr 4 (t 53) (t 54)) [1,2],
 op 56 (.fieldAddr 1 (t 55)) [3],op 57 (.load false 1 (t 56)) [4],fa 58 0 3,op 59 (.load false 1 (t 58)) [6],
 mv 60 5,op 61 (.indexAddr 4 (t 59) (t 60)) [7,8],op 62 (.fieldAddr 1 (t 61)) [9],op 63 (.load false 1 (t 62)) [10],
 op 64 (.call 1040 false (fc 125) [(t 57),(t 63)]) [5,11],op 6 (.move (t 64)) ([12,12]++rg 13)])
  (.seq (.drawn [mv 65 6,op 66 (.un .not (t 65)) [0],op 67 (.move (t 66)) [1],⟨some 68,.fieldAddr 0 (t 2),some (67,false),[2]⟩,
 ⟨some 69,.load false 1 (t 68),some (67,false),[3,2]⟩,⟨some 70,.move (t 5),some (67,false),[2]⟩,⟨some 71,.indexAddr 4 (t 69) (t 70),some (67,false),[4,5,2]⟩,⟨some 72,.fieldAddr 0 (t 71),some (67,false),[6,2]⟩,
 ⟨some 73,.load false 1 (t 72),some (67,false),[7,2]⟩,⟨some 74,.fieldAddr 0 (t 3),some (67,false),[2]⟩,⟨some 75,.load false 1 (t 74),some (67,false),[9,2]⟩,⟨some 76,.move (t 5),some (67,false),[2]⟩,
 ⟨some 77,.indexAddr 4 (t 75) (t 76),some (67,false),[10,11,2]⟩,⟨some 78,.fieldAddr 0 (t 77),some (67,false),[12,2]⟩,⟨some 79,.load false 1 (t 78),some (67,false),[13,2]⟩,⟨some 80,.bin .neq (t 73) (t 79),some (67,false),[8,14,2]⟩,
 op 81 (.pick (t 67) (.const (.bool true)) (t 80)) [2,15],op 82 (.move (t 81)) [16,2],⟨some 83,.fieldAddr 0 (t 2),some (82,false),[17]⟩,⟨some 84,.load false 1 (t 83),some (82,false),[18,17]⟩,
 ⟨some 85,.move (t 5),some (82,false),[17]⟩,⟨some 86,.indexAddr 4 (t 84) (t 85),some (82,false),[19,20,17]⟩,⟨some 87,.fieldAddr 2 (t 86),some (82,false),[21,17]⟩,⟨some 88,.load false 1 (t 87),some (82,false),[22,17]⟩,
 ⟨some 89,.fieldAddr 0 (t 3),some (82,false),[17]⟩,⟨some 90,.load false 1 (t 89),some (82,false),[24,17]⟩,⟨some 91,.move (t 5),some (82,false),[17]⟩,⟨some 92,.indexAddr 4 (t 90) (t 91),some (82,false),[25,26,17]⟩,
 ⟨some 93,.fieldAddr 2 (t 92),some (82,false),[27,17]⟩,⟨some 94,.load false 1 (t 93),some (82,false),[28,17]⟩,⟨some 95,.bin .neq (t 88) (t 94),some (82,false),[23,29,17]⟩,op 96 (.pick (t 82) (.const (.bool true)) (t 95)) [17,30],
 op 97 (.move (t 96)) [31,17],⟨some 98,.fieldAddr 0 (t 2),some (97,false),[32]⟩,⟨some 99,.load false 1 (t 98),some (97,false),[33,32]⟩,⟨some 100,.move (t 5),some (97,false),[32]⟩,
 ⟨some 101,.indexAddr 4 (t 99) (t 100),some (97,false),[34,35,32]⟩,⟨some 102,.fieldAddr 3 (t 101),some (97,false),[36,32]⟩,⟨some 103,.load false 1 (t 102),some (97,false),[37,32]⟩,⟨some 104,.fieldAddr 0 (t 3),some (97,false),[32]⟩,
 ⟨some 105,.load false 1 (t 104),some (97,false),[39,32]⟩,⟨some 106,.move (t 5),some (97,false),[32]⟩,⟨some 107,.indexAddr 4 (t 105) (t 106),some (97,false),[40,41,32]⟩,⟨some 108,.fieldAddr 3 (t 107),some (97,false),[42,32]⟩,
 ⟨some 109,.load false 1 (t 108),some (97,false),[43,32]⟩,⟨some 110,.bin .neq (t 103) (t 109),some (97,false),[38,44,32]⟩,op 111 (.pick (t 97) (.const (.bool true)) (t 110)) [32,45]])
  (.cond (t 111)
  (sr [od 4 (.move (.const (.bool false)))]
  .ret)
  .skip))))
  (rn [mv 50 5,ad 51 50 1,mv 5 51])))
abbrev JJ:az:=
  (.seq (sr [mv 112 7,fa 113 1 2,ld 114 113,ln 115 114,
 ls 116 112 115]
  (.cond (t 116)
  .skip
  (.exit 2)))
  (.seq (.block 3 (.seq (.drawn [fa 119 1 2,op 120 (.load false 1 (t 119)) [0],mv 121 7,op 122 (.indexAddr 5 (t 120) (t 121)) [1,2],
 op 123 (.load true 5 (t 122)) [3],fa 124 1 3,op 125 (.load false 1 (t 124)) [5],mv 126 7,
 op 127 (.indexAddr 5 (t 125) (t 126)) [6,7],op 128 (.load true 5 (t 127)) [8],op 129 (.Gz true [1,2,2,1,1] (t 123) (t 128)) [4,9]])
  (.cond (t 129)
  (sr [od 4 (.move (.const (.bool false)))]
  .ret)
  .skip)))
  (rn [mv 117 7,ad 118 117 1,mv 7 118])))
abbrev JK:az:=
  (.seq (sr [mv 130 8,fa 131 2 2,ld 132 131,ln 133 132,
 ls 134 130 133]
  (.cond (t 134)
  .skip
  (.exit 4)))
  (.seq (.block 5 (.seq (.drawn [fa 137 2 2,op 138 (.load false 1 (t 137)) [0],mv 139 8,op 140 (.indexAddr 8 (t 138) (t 139)) [1,2],
 op 141 (.load true 8 (t 140)) [3],fa 142 2 3,op 143 (.load false 1 (t 142)) [5],mv 144 8,
 op 145 (.indexAddr 8 (t 143) (t 144)) [6,7],op 146 (.load true 8 (t 145)) [8],op 147 (.call 2368 false (fc 126) [(t 141),(t 146)]) [4,9],op 9 (.move (t 147)) ([10,10]++rg 11)])
  (sr [mv 148 9,od 149 (.un .not (t 148))]
  (.cond (t 149)
  (sr [od 4 (.move (.const (.bool false)))]
  .ret)
  .skip))))
  (rn [mv 135 8,ad 136 135 1,mv 8 136])))
abbrev JL:az:=
  (.seq (sr [mv 150 10,fa 151 3 2,ld 152 151,ln 153 152,
 ls 154 150 153]
  (.cond (t 154)
  .skip
  (.exit 6)))
  (.seq (.block 7 (.seq (.drawn [fa 157 3 2,op 158 (.load false 1 (t 157)) [0],mv 159 10,op 160 (.indexAddr 7 (t 158) (t 159)) [1,2],
 op 161 (.load true 7 (t 160)) [3],fa 162 3 3,op 163 (.load false 1 (t 162)) [5],mv 164 10,
 op 165 (.indexAddr 7 (t 163) (t 164)) [6,7],op 166 (.load true 7 (t 165)) [8],op 167 (.Gz true [1,1,1,2,2,1,1] (t 161) (t 166)) [4,9]])
  (.cond (t 167)
  (sr [od 4 (.move (.const (.bool false)))]
  .ret)
  .skip)))
  (rn [mv 155 10,ad 156 155 1,mv 10 156])))
def Np:az:=
  (sr [od 2 (.new 48 4 (t 0)),od 3 (.new 64 4 (t 1)),od 4 (.move (.const (.bool false)))]
  (.seq (sr [fa 11 0 2,ld 12 11,ln 13 12,fa 14 0 3,
 ld 15 14,ln 16 15,od 17 (.bin .neq (t 13) (t 16)),mv 18 17,
 og 19 (.fieldAddr 1 (t 2)) 18 false,og 20 (.load false 1 (t 19)) 18 false,og 21 (.len (t 20)) 18 false,og 22 (.fieldAddr 1 (t 3)) 18 false,
 og 23 (.load false 1 (t 22)) 18 false,og 24 (.len (t 23)) 18 false,og 25 (.bin .neq (t 21) (t 24)) 18 false,od 26 (.pick (t 18) (.const (.bool true)) (t 25)),
 mv 27 26,og 28 (.fieldAddr 2 (t 2)) 27 false,og 29 (.load false 1 (t 28)) 27 false,og 30 (.len (t 29)) 27 false,
 og 31 (.fieldAddr 2 (t 3)) 27 false,og 32 (.load false 1 (t 31)) 27 false,og 33 (.len (t 32)) 27 false,og 34 (.bin .neq (t 30) (t 33)) 27 false,
 od 35 (.pick (t 27) (.const (.bool true)) (t 34)),mv 36 35,og 37 (.fieldAddr 3 (t 2)) 36 false,og 38 (.load false 1 (t 37)) 36 false,
 og 39 (.len (t 38)) 36 false,og 40 (.fieldAddr 3 (t 3)) 36 false,og 41 (.load false 1 (t 40)) 36 false,og 42 (.len (t 41)) 36 false,
 og 43 (.bin .neq (t 39) (t 42)) 36 false,od 44 (.pick (t 36) (.const (.bool true)) (t 43))]
  (.cond (t 44)
  (sr [od 4 (.move (.const (.bool false)))]
  .ret)
  .skip))
  (.seq (sr [mc 5 0]
  (.block 0 (.loop JI)))
  (.seq (sr [mc 7 0]
  (.block 2 (.loop JJ)))
  (.seq (sr [mc 8 0]
  (.block 4 (.loop JK)))
  (.seq (sr [mc 10 0]
  (.block 6 (.loop JL)))
  (sr [od 4 (.move (.const (.bool true)))]
  .ret)))))))
def f89:aZ:=⟨2,168,[],[.tmp 4],Np,none⟩
abbrev JV:az:=
  (.seq (sr [mv 55 12,mv 56 9,ls 57 55 56]
  (.cond (t 57)
  .skip
  (.exit 2)))
  (.seq (.block 3 (sr [mv 60 11,mv 61 12,mv 62 11,od 63 (.bin .add (ic 21) (t 62)),
 mv 64 8,mv 65 12,od 66 (.bin .mul (t 64) (t 65)),od 67 (.bin .add (t 63) (t 66)),
 od 68 (.bE 3 2 (t 10) (t 60)),od 69 (.bE 2 1 (t 68) (t 61)),ow (.store false 1 (t 69) (t 67))]
  (.seq (sr [mv 70 11,od 71 (.bin .gtr (t 70) (ic 0)),mv 72 71,og 73 (.move (t 7)) 72 true,
 og 74 (.call 1200 false (fc 85) [(t 73),(ic 5)]) 72 true,og 75 (.bin .eql (t 74) (ic 0)) 72 true,od 76 (.pick (t 72) (t 75) (.const (.bool false)))]
  (.cond (t 76)
  (.drawn [mv 77 11,mv 78 12,mv 79 11,op 80 (.bin .sub (t 79) (ic 1)) [2],
 mv 81 12,op 82 (.bE 3 2 (t 10) (t 80)) [3],op 83 (.bE 2 1 (t 82) (t 81)) [5,4],op 84 (.load false 1 (t 83)) [6],
 op 85 (.bE 3 2 (t 10) (t 77)) [0],op 86 (.bE 2 1 (t 85) (t 78)) ([8,1]++rg 8),⟨none,.store false 1 (t 86) (t 84),none,([9,7]++rg 8)⟩])
  .skip))
  (sr [mv 87 12,od 88 (.bin .gtr (t 87) (ic 0)),mv 89 88,og 90 (.move (t 7)) 89 true,
 og 91 (.call 1472 false (fc 85) [(t 90),(ic 5)]) 89 true,og 92 (.bin .eql (t 91) (ic 0)) 89 true,od 93 (.pick (t 89) (t 92) (.const (.bool false)))]
  (.cond (t 93)
  (.drawn [mv 94 11,mv 95 12,mv 96 11,mv 97 12,
 op 98 (.bin .sub (t 97) (ic 1)) [3],op 99 (.bE 3 2 (t 10) (t 96)) [2],op 100 (.bE 2 1 (t 99) (t 98)) [5,4],op 101 (.load false 1 (t 100)) [6],
 op 102 (.bE 3 2 (t 10) (t 94)) [0],op 103 (.bE 2 1 (t 102) (t 95)) ([8,1]++rg 8),⟨none,.store false 1 (t 103) (t 101),none,([9,7]++rg 8)⟩])
  .skip)))))
  (rn [mv 58 12,ad 59 58 1,mv 12 59])))
abbrev w7:az:=
 (.seq (sr [mv 50 11,mv 51 8,ls 52 50 51]
 (.cond (t 52)
 .skip
 (.exit 0)))
 (.seq (.block 1 (sr [mc 12 0]
 (.block 2 (.loop JV))))
 (rn [mv 53 11,ad 54 53 1,mv 11 54])))
abbrev JW:az:=
  (.seq (sr [mv 112 16,mv 113 8,ls 114 112 113]
  (.cond (t 114)
  .skip
  (.exit 6)))
  (.seq (.block 7 (.drawn [mv 117 14,mv 118 5,mv 119 16,mv 120 15,
 op 121 (.call 1952 false (fc 115) [(t 118),(t 119),(t 120)]) [1,2,3],mv 122 5,mv 123 16,op 124 (.bin .add (t 123) (ic 1)) [6],
 mv 125 15,op 126 (.call 2032 false (fc 115) [(t 122),(t 124),(t 125)]) [5,7,8,4],mv 127 13,op 128 (.call 2064 false (fc 114) [(t 121),(t 126),(t 127)]) [4,9,10,9],
 la 129 6 10,mv 130 8,mv 131 9,mv 132 16,
 mv 133 15,op 134 (.call 2160 false (fc 116) [(t 129),(t 130),(t 131),(t 132),(t 133)]) [12,13,14,15,16,11],la 135 6 10,mv 136 8,
 mv 137 9,mv 138 16,mv 139 15,op 140 (.bin .sub (t 139) (ic 1)) [22],
 op 141 (.call 2272 false (fc 116) [(t 135),(t 136),(t 137),(t 138),(t 140)]) [18,19,20,21,23,17],mv 142 13,op 143 (.call 2304 true (fc 113) [(t 117),(t 128),(t 134),(t 141),(t 142)]) [0,11,17,24,25,24],op 14 (.nO 241 (t 143)) ([26,26]++rg 27)]))
  (rn [mv 115 16,ad 116 115 1,mv 16 116])))
abbrev EJ:az:=
 (.seq (sr [mv 107 15,mv 108 9,od 109 (.bin .leq (t 107) (t 108))]
 (.cond (t 109)
 .skip
 (.exit 4)))
 (.seq (.block 5 (sr [mc 16 0]
 (.block 6 (.loop JW))))
 (rn [mv 110 15,ad 111 110 1,mv 15 111])))
abbrev JX:az:=
  (.seq (sr [mv 149 18,mv 150 8,od 151 (.bin .leq (t 149) (t 150))]
  (.cond (t 151)
  .skip
  (.exit 10)))
  (.seq (.block 11 (.drawn [mv 154 14,mv 155 5,mv 156 18,mv 157 17,
 op 158 (.call 2544 false (fc 115) [(t 155),(t 156),(t 157)]) [1,2,3],mv 159 5,mv 160 18,mv 161 17,
 op 162 (.bin .add (t 161) (ic 1)) [7],op 163 (.call 2624 false (fc 115) [(t 159),(t 160),(t 162)]) [5,6,8,4],mv 164 13,op 165 (.call 2656 false (fc 114) [(t 158),(t 163),(t 164)]) [4,9,10,9],
 la 166 6 10,mv 167 8,mv 168 9,mv 169 18,
 op 170 (.bin .sub (t 169) (ic 1)) [15],mv 171 17,op 172 (.call 2768 false (fc 116) [(t 166),(t 167),(t 168),(t 170),(t 171)]) [12,13,14,16,17,11],la 173 6 10,
 mv 174 8,mv 175 9,mv 176 18,mv 177 17,
 op 178 (.call 2864 false (fc 116) [(t 173),(t 174),(t 175),(t 176),(t 177)]) [19,20,21,22,23,18],mv 179 13,op 180 (.call 2896 true (fc 113) [(t 154),(t 165),(t 172),(t 178),(t 179)]) [0,11,18,24,25,24],op 14 (.nO 241 (t 180)) ([26,26]++rg 27)]))
  (rn [mv 152 18,ad 153 152 1,mv 18 153])))
abbrev EK:az:=
 (.seq (sr [mv 144 17,mv 145 9,ls 146 144 145]
 (.cond (t 146)
 .skip
 (.exit 8)))
 (.seq (.block 9 (sr [mc 18 0]
 (.block 10 (.loop JX))))
 (rn [mv 147 17,ad 148 147 1,mv 17 148])))
def EL:az:=
  (sr [od 2 (.move (.const (.lit 4 []))),od 3 (.move (.const (.lit 5 [])))]
  (sr [od 4 (.move (.const (.lit 1 []))),od 5 (.move (.const (.lit 1 []))),od 6 (.move (.const (.lit 1 [])))]
  (.seq (sr [mv 21 0,ln 22 21,od 23 (.bin .gtr (t 22) (ic 0))]
  (.cond (t 23)
  (rn [mv 24 0,od 25 (.indexAddr 1 (t 24) (ic 0)),ld 26 25,mv 4 26])
  .skip))
  (.seq (sr [mv 27 0,ln 28 27,od 29 (.bin .gtr (t 28) (ic 1))]
  (.cond (t 29)
  (rn [mv 30 0,od 31 (.indexAddr 1 (t 30) (ic 1)),ld 32 31,mv 5 32])
  .skip))
  (.seq (sr [mv 33 0,ln 34 33,od 35 (.bin .gtr (t 34) (ic 2))]
  (.cond (t 35)
  (rn [mv 36 0,od 37 (.indexAddr 1 (t 36) (ic 2)),ld 38 37,mv 6 38])
  .skip))
  (sr [mv 39 4,od 40 (.build [.lit 1 [],i0] [(0,1,(t 39))]),od 41 (.new 672 2 (t 40)),mv 7 41]
  (sr [mv 42 7,ca 43 704 85 [(t 42),(ic 3)],od 44 (.bin .add (ic 1) (t 43)),mv 8 44]
  (sr [mv 45 7,ca 46 752 85 [(t 45),(ic 2)],od 47 (.bin .add (ic 1) (t 46)),mv 9 47]
  (.seq (sr [mv 48 8,eq 49 48 3]
  (.cond (t 49)
  (rn [mc 9 1])
  .skip))
  (sr [od 10 (.new 176 6 (.const (.agg [i0,i0,i0,i0,i0,i0])))]
  (.seq (sr [mc 11 0]
  (.block 0 (.loop w7)))
  (sr [mv 104 6,od 105 (.build [.lit 1 [],i0] [(0,1,(t 104))]),od 106 (.new 1712 2 (t 105)),mv 13 106]
  (sr [od 14 (.cU 241 4)]
  (.seq (sr [mc 15 0]
  (.block 4 (.loop EJ)))
  (.seq (sr [mc 17 0]
  (.block 8 (.loop EK)))
  (.seq (sr [mv 181 7,ca 182 2928 85 [(t 181),(ic 2)],eq 183 182 1]
  (.cond (t 183)
  (sr [mv 184 7,mv 185 8,ca 186 2992 85 [(t 184),(t 185)],mv 19 186]
  (sr [mv 187 7,mv 188 9,ca 189 3040 85 [(t 187),(t 188)],mv 20 189]
  (rn [mv 190 14,mv 191 19,od 192 (.bin .mul (ic 100) (t 191)),od 193 (.bin .add (ic 90) (t 192)),
 mv 194 20,od 195 (.bin .mul (ic 100) (t 194)),od 196 (.bin .add (ic 90) (t 195)),od 197 (.build [i0,i0] [(0,1,(t 193)),(1,1,(t 196))]),
 mv 198 19,mv 199 20,od 200 (.bE 3 2 (t 10) (t 198)),od 201 (.bE 2 1 (t 200) (t 199)),
 ld 202 201,mv 203 13,od 204 (.call 3280 true (fc 117) [(t 190),(t 197),(t 202),(t 203)]),od 14 (.nO 241 (t 204))])))
  .skip))
  (sr [mv 205 14,mv 206 14,od 207 (.call 3328 true (fc 118) [(t 206)]),mv 2 205,
 mv 3 207]
  .ret)))))))))))))))))
def f83:aZ:=⟨1,208,[],[.tmp 2,.tmp 3],EL,none⟩
def Nv:az:=
  (sr [od 4 (.move (.const (.lit 1 [])))]
  (.seq (sr [mv 5 1,mv 6 0,ln 7 6,od 8 (.bin .geq (t 5) (t 7))]
  (.cond (t 8)
  (sr [od 4 (.move (.const (.lit 1 [])))]
  .ret)
  .skip))
  (sr [mv 9 0,mv 10 1,od 11 (.indexAddr 1 (t 9) (t 10)),ld 12 11,
 mv 4 12]
  .ret)))
def f84:aZ:=⟨2,13,[],[.tmp 4],Nv,none⟩
def Nw:az:=
  (sr [mc 4 0]
  (.seq (.seq (.drawn [mv 5 0,op 6 (.nilCheck (t 5)) [0],op 7 (.fieldAddr 1 (t 6)) [1],op 8 (.load false 1 (t 7)) [2],
 mv 9 0,op 10 (.nilCheck (t 9)) [4],op 11 (.fieldAddr 0 (t 10)) [5],op 12 (.load false 1 (t 11)) [6],
 op 13 (.len (t 12)) [7],op 14 (.bin .geq (t 8) (t 13)) [3,8]])
  (.cond (t 14)
  (sr [mc 4 0]
  .ret)
  .skip))
  (sr [mv 15 0,od 16 (.nilCheck (t 15)),fa 17 1 16,ld 18 17,
 ad 19 18 1,od 20 (.nilCheck (t 15)),fa 21 1 20,ow (.store false 1 (t 21) (t 19))]
  (.seq (.drawn [mv 22 0,op 23 (.nilCheck (t 22)) [0],op 24 (.fieldAddr 0 (t 23)) [1],op 25 (.load false 1 (t 24)) [2],
 mv 26 0,op 27 (.nilCheck (t 26)) [4],op 28 (.fieldAddr 1 (t 27)) [5],op 29 (.load false 1 (t 28)) [6],
 op 30 (.bin .sub (t 29) (ic 1)) [7],op 31 (.indexAddr 1 (t 25) (t 30)) [3,8],op 32 (.load false 1 (t 31)) [9],mv 33 1,
 op 34 (.call 560 false (fc 93) [(t 32),(t 33)]) [10,11],op 4 (.move (t 34)) ([12,12]++rg 13)])
  .ret))))
def f85:aZ:=⟨2,35,[some 2,none],[.tmp 4],Nw,none⟩
abbrev JY:az:=
  (.seq (sr [mv 15 6,od 16 (.bin .lss (t 15) (ic 3))]
  (.cond (t 16)
  .skip
  (.exit 2)))
  (.seq (.block 3 (sr [mv 19 3,ca 20 336 85 [(t 19),(ic 2)],eq 21 20 0]
  (.cond (t 21)
  (rn [mv 22 4,mv 23 6,mv 24 5,ca 25 416 120 [(t 23),(t 24)],
 mv 26 6,ad 27 26 1,mv 28 5,ca 29 480 120 [(t 27),(t 28)],
 mv 30 3,od 31 (.call 512 true (fc 119) [(t 22),(t 25),(t 29),(ic 0),(t 30)]),od 4 (.nO 81 (t 31))])
  .skip)))
  (rn [mv 17 6,ad 18 17 1,mv 6 18])))
abbrev JZ:az:=
 (.seq (sr [mv 11 5,od 12 (.bin .lss (t 11) (ic 2))]
 (.cond (t 12)
 .skip
 (.exit 0)))
 (.seq (.block 1 (sr [mc 6 0]
 (.block 2 (.loop JY))))
 (rn [mv 13 5,ad 14 13 1,mv 5 14])))
abbrev J0:az:=
  (.seq (sr [mv 32 7,od 33 (.bin .lss (t 32) (ic 4)),mv 34 33,og 35 (.move (t 4)) 34 true,
 og 36 (.len (t 35)) 34 true,og 37 (.bin .lss (t 36) (ic 5)) 34 true,od 38 (.pick (t 34) (t 37) (.const (.bool false)))]
  (.cond (t 38)
  .skip
  (.exit 4)))
  (.seq (.block 5 (sr [mv 41 3,ca 42 688 85 [(t 41),(ic 2)],eq 43 42 0]
  (.cond (t 43)
  (rn [mv 44 4,mv 45 7,ca 46 752 120 [(t 45),(ic 0)],mv 47 7,
 ca 48 784 120 [(t 47),(ic 1)],mv 49 3,od 50 (.call 816 true (fc 119) [(t 44),(t 46),(t 48),(ic 0),(t 49)]),od 4 (.nO 81 (t 50))])
  .skip)))
  (rn [mv 39 7,ad 40 39 1,mv 7 40])))
def Nx:az:=
  (sr [od 2 (.move (.const (.lit 8 [])))]
  (sr [mv 8 0,od 9 (.build [.lit 1 [],i0] [(0,1,(t 8))]),od 10 (.new 176 2 (t 9)),mv 3 10]
  (sr [od 4 (.cU 81 8)]
  (.seq (sr [mc 5 0]
  (.block 0 (.loop JZ)))
  (.seq (sr [mc 7 0]
  (.block 4 (.loop J0)))
  (.seq (sr [mv 51 3,ca 52 848 85 [(t 51),(ic 3)],eq 53 52 0]
  (.cond (t 53)
  (rn [mv 54 4,ca 55 896 120 [(ic 0),(ic 0)],mv 56 3,ca 57 928 85 [(t 56),(ic 2)],
 od 58 (.bin .add (ic 2) (t 57)),ca 59 960 120 [(t 58),(ic 1)],mv 60 3,od 61 (.call 992 true (fc 119) [(t 54),(t 55),(t 59),(ic 1),(t 60)]),
 od 4 (.nO 81 (t 61))])
  .skip))
  (.seq (sr [mv 62 3,ca 63 1024 85 [(t 62),(ic 4)],eq 64 63 0]
  (.cond (t 64)
  (rn [mv 65 4,ca 66 1072 120 [(ic 1),(ic 1)],ca 67 1088 120 [(ic 3),(ic 0)],mv 68 3,
 od 69 (.call 1120 true (fc 119) [(t 65),(t 66),(t 67),(ic (-1)),(t 68)]),od 4 (.nO 81 (t 69))])
  .skip))
  (sr [mv 70 4,mv 2 70]
  .ret))))))))
def f86:aZ:=⟨1,71,[],[.tmp 2],Nx,none⟩
abbrev J1:az:=
  (.seq (sr [mv 18 8,mv 19 7,ls 20 18 19]
  (.cond (t 20)
  .skip
  (.exit 0)))
  (.seq (.block 1 (sr [mv 23 5,ca 24 400 85 [(t 23),(ic 10)],od 25 (.bin .add (ic 16) (t 24)),mv 9 25]
  (.seq (sr [mv 26 5,ca 27 448 85 [(t 26),(ic 2)],eq 28 27 1]
  (.cond (t 28)
  (rn [mv 29 9,od 30 (.un .neg (t 29)),mv 9 30])
  .skip))
  (sr [mv 31 6,ln 32 31,od 33 (.bin .add (ic 61) (t 32)),mv 34 5,
 ca 35 576 85 [(t 34),(ic 3)],od 36 (.bin .mul (ic 100) (t 35)),od 37 (.bin .add (ic 90) (t 36)),mv 38 9,
 od 39 (.bin .add (t 37) (t 38)),mv 40 5,ca 41 672 85 [(t 40),(ic 2)],od 42 (.bin .mul (ic 100) (t 41)),
 od 43 (.bin .add (ic 90) (t 42)),mv 44 5,ca 45 736 85 [(t 44),(ic 51)],od 46 (.bin .add (t 43) (t 45)),
 od 47 (.bin .sub (t 46) (ic 25)),od 48 (.build [i0,i0] [(0,1,(t 39)),(1,1,(t 47))]),mv 49 5,ca 50 816 85 [(t 49),(ic 60)],
 od 51 (.bin .add (ic 1) (t 50)),od 52 (.build [i0,i0,i0,.str [],.str [],i0,i0] [(0,1,(t 33)),(1,2,(t 48)),(5,1,(t 51))]),od 10 (.new 176 7 (.const (.agg [i0,i0,i0,.str [],.str [],i0,i0]))),ow (.store true 7 (t 10) (t 52))]
  (sr [od 53 (.buildSlice 864 1 (.str []) 3 [(0,(.const (.str [116,114,101,101]))),(1,(.const (.str [116,114,101,101]))),(2,(.const (.str [115,104,111,112])))]),mv 54 5,ca 55 896 85 [(t 54),(ic 3)],od 56 (.indexAddr 1 (t 53) (t 55)),
 ld 57 56,fa 58 3 10,ow (.store false 1 (t 58) (t 57))]
  (sr [od 59 (.buildSlice 960 1 (.str []) 5 [(0,(.const (.str []))),(1,(.const (.str []))),(2,(.const (.str [71,97,116,101]))),(3,(.const (.str [79,97,107]))),(4,(.const (.str [84,104,101,32,87,101,108,108])))]),mv 60 5,ca 61 992 85 [(t 60),(ic 5)],od 62 (.indexAddr 1 (t 59) (t 61)),
 ld 63 62,fa 64 4 10,ow (.store false 1 (t 64) (t 63))]
  (sr [fa 66 0 2,ld 67 66,fa 68 1 10,la 69 2 68,
 ca 70 1136 121 [(t 67),(t 69)],mv 65 70,xt 71 65 0,xt 72 65 1,
 mv 11 71,mv 12 72]
  (sr [la 73 4 2,mv 74 11,ca 75 1216 122 [(t 73),(t 74)],fa 76 6 10,
 ow (.store false 1 (t 76) (t 75))]
  (sr [mv 77 12,mv 78 77,og 79 (.fieldAddr 6 (t 10)) 78 true,og 80 (.load false 1 (t 79)) 78 true,
 og 81 (.bin .gtr (t 80) (ic 0)) 78 true,od 82 (.pick (t 78) (t 81) (.const (.bool false)))]
  (.cond (t 82)
  (rn [mv 83 6,la 84 7 10,od 85 (.buildSlice 1376 7 (.agg [i0,i0,i0,.str [],.str [],i0,i0]) 1 [(0,(t 84))]),od 86 (.append 113 7 1927910799188 (t 83) (t 85)),
 od 6 (.nO 113 (t 86))])
  .skip))))))))))
  (rn [mv 21 8,ad 22 21 1,mv 8 22])))
def Ny:az:=
 (sr [od 2 (.new 48 4 (t 0)),od 4 (.cU 81 7)]
 (sr [mv 13 1,od 14 (.build [.lit 1 [],i0] [(0,1,(t 13))]),od 15 (.new 256 2 (t 14)),mv 5 15]
 (sr [od 6 (.cU 113 7)]
 (sr [mv 16 5,ca 17 288 85 [(t 16),(ic 7)],mv 7 17]
 (.seq (sr [mc 8 0]
 (.block 0 (.loop J1)))
 (sr [mv 87 6,mv 4 87]
 .ret))))))
def f87:aZ:=⟨2,88,[],[.tmp 4],Ny,none⟩
def Kk:az:=
  (sr [mv 3 0,ln 4 3,mv 2 4]
  (rn [mv 5 0,mv 6 2,mv 7 2,od 8 (.j7 .u64 (t 7)),
 ca 9 160 40 [(t 8)],ca 10 176 167 [(t 5),(ic 0),(t 6),(t 9)]]))
def abU:aZ:=⟨1,11,[some 1],[],Kk,none⟩
abbrev Ha:az:=
  (.seq (sr [mv 29 5,mv 30 4,ln 31 30,ls 32 29 31]
  (.cond (t 32)
  .skip
  (.exit 2)))
  (.seq (.block 3 (.seq (.drawn [mv 35 4,mv 36 5,op 37 (.indexAddr 1 (t 35) (t 36)) [0,1],op 38 (.load false 1 (t 37)) [2],
 mv 39 4,mv 40 5,op 41 (.bin .sub (t 40) (ic 1)) [5],op 42 (.indexAddr 1 (t 39) (t 41)) [4,6],
 op 43 (.load false 1 (t 42)) [7],op 44 (.bin .neq (t 38) (t 43)) [3,8]])
  (.cond (t 44)
  (sr [mv 45 0,mv 46 3,mv 47 4,mv 48 5,
 od 49 (.indexAddr 1 (t 47) (t 48)),ld 50 49,od 51 (.indexAddr 1 (t 45) (t 46)),ow (.store false 1 (t 51) (t 50))]
  (rn [mv 52 3,ad 53 52 1,mv 3 53]))
  .skip)))
  (rn [mv 33 5,ad 34 33 1,mv 5 34])))
abbrev Hb:az:=
  (.seq (sr [mv 10 3,mv 11 0,ln 12 11,ls 13 10 12]
  (.cond (t 13)
  .skip
  (.exit 0)))
  (.seq (.block 1 (.seq (.drawn [mv 16 0,mv 17 3,op 18 (.indexAddr 1 (t 16) (t 17)) [0,1],op 19 (.load false 1 (t 18)) [2],
 mv 20 0,mv 21 3,op 22 (.bin .sub (t 21) (ic 1)) [5],op 23 (.indexAddr 1 (t 20) (t 22)) [4,6],
 op 24 (.load false 1 (t 23)) [7],op 25 (.bin .eql (t 19) (t 24)) [3,8]])
  (.cond (t 25)
  (sr [mv 26 0,mv 27 3,od 28 (.slice 1 (t 26) (some (t 27)) none none),mv 4 28]
  (.seq (sr [mc 5 1]
  (.block 2 (.loop Ha)))
  (sr [mv 54 0,mv 55 3,od 56 (.slice 1 (t 54) (some (t 55)) none none),ow (.clear 1 (i0) (t 56))]
  (sr [mv 57 0,mv 58 3,od 59 (.slice 1 (t 57) none (some (t 58)) none),mv 2 59]
  .ret))))
  .skip)))
  (rn [mv 14 3,ad 15 14 1,mv 3 15])))
def Kx:az:=
 (sr [od 2 (.move (.const (.lit 1 [])))]
 (.seq (sr [mv 6 0,ln 7 6,od 8 (.bin .lss (t 7) (ic 2))]
 (.cond (t 8)
 (sr [mv 9 0,mv 2 9]
 .ret)
 .skip))
 (.seq (sr [mc 3 1]
 (.block 0 (.loop Hb)))
 (sr [mv 60 0,mv 2 60]
 .ret))))
def abq:aZ:=⟨1,61,[some 1],[.tmp 2],Kx,none⟩
def KJ:az:=
 (sr [od 2 (.move (.const (.lit 2 [])))]
 (sr [od 3 (.buildSlice 64 2 (.agg [i0,i0]) 0 []),mv 4 0,od 5 (.append 96 2 8278675785407 (t 3) (t 4)),mv 2 5]
 .ret))
def abr:aZ:=⟨1,6,[],[.tmp 2],KJ,none⟩
abbrev G3:az:=
  (sr [ls 11 10 9]
  (.seq (.cond (t 11)
  .skip
  (.exit 0))
  (.seq (.block 1 (sr [mv 12 10,mv 4 12]
  (sr [fa 13 1 1,ld 14 13,mv 15 4,od 16 (.indexAddr 5 (t 14) (t 15)),
 mv 5 16]
  (sr [mv 17 3,mv 18 5,od 19 (.nilCheck (t 18)),fa 20 0 19,
 ld 21 20,od 22 (.iN (some .i64) false (.nilp) (t 17) (t 21)),od 23 (.D7 false (t 22) (.const (.nilp)))]
  (.cond (t 23)
  (rn [mv 24 3,mv 25 5,od 26 (.nilCheck (t 25)),fa 27 0 26,
 ld 28 27,mv 29 5,ow (.pk (some .i64) (t 24) (t 28) (t 29))])
  .skip)))))
  (rn [ad 30 10 1,mv 10 30]))))
def J7:az:=
 (sr [od 1 (.new 32 4 (t 0)),od 2 (.wX (.const (.mlit [])))]
 (sr [od 6 (.mkMap 112),mv 3 6]
 (.seq (sr [fa 7 1 1,ld 8 7,ln 9 8,mc 10 0]
 (.block 0 (.loop G3)))
 (sr [mv 31 3,od 2 (.wX (t 31))]
 .ret))))
def J8:aZ:=⟨1,32,[],[.tmp 2],J7,none⟩
abbrev G6:az:=
  (.seq (sr [mv 16 6,mv 17 0,ln 18 17,ls 19 16 18]
  (.cond (t 19)
  .skip
  (.exit 0)))
  (.seq (.block 1 (sr [mv 22 0,mv 23 6,od 24 (.indexAddr 1 (t 22) (t 23)),ld 25 24,
 mv 7 25]
  (sr [mv 26 1,mv 27 7,od 28 (.call 464 false (t 26) [(t 27)]),od 29 (.un .not (t 28))]
  (.cond (t 29)
  (sr [mv 30 0,mv 31 5,mv 32 7,od 33 (.indexAddr 1 (t 30) (t 31)),
 ow (.store false 1 (t 33) (t 32))]
  (rn [mv 34 5,ad 35 34 1,mv 5 35]))
  .skip))))
  (rn [mv 20 6,ad 21 20 1,mv 6 21])))
def Kl:az:=
 (sr [od 4 (.move (.const (.lit 1 [])))]
 (sr [mv 8 0,mv 9 1,ca 10 176 280 [(t 8),(t 9)],mv 5 10]
 (.seq (sr [mv 11 5,eq 12 11 (-1)]
 (.cond (t 12)
 (sr [mv 13 0,mv 4 13]
 .ret)
 .skip))
 (.seq (sr [mv 14 5,ad 15 14 1,mv 6 15]
 (.block 0 (.loop G6)))
 (sr [mv 36 0,mv 37 5,od 38 (.slice 1 (t 36) (some (t 37)) none none),ow (.clear 1 (i0) (t 38))]
 (sr [mv 39 0,mv 40 5,od 41 (.slice 1 (t 39) none (some (t 40)) none),mv 4 41]
 .ret))))))
def NF:aZ:=⟨2,42,[some 1,none],[.tmp 4],Kl,none⟩
def Km:az:=
  (sr [od 5 (.move (.const (.bool false)))]
  (sr [la 6 4 1,ld 7 2,ld 8 3,mv 9 0,
 ca 10 176 501 [(t 6),(t 7),(t 8),(t 9)],od 11 (.bin .neq (t 10) (ic 0)),mv 5 11]
  .ret))
def NG:aZ:=⟨4,12,[],[.tmp 5],Km,none⟩
def J9:az:=
  (sr [od 4 (.new 80 4 (t 0)),mc 8 0]
  (.seq (.drawn [mv 11 1,mv 12 2,op 13 (.iN (some .i64) false (.nilp) (t 11) (t 12)) [0,1],mv 14 1,
 mv 15 3,op 16 (.iN (some .i64) false (.nilp) (t 14) (t 15)) [3,4],op 9 (.move (t 13)) [2,0,1,2],op 10 (.move (t 16)) ([5,6]++rg 7)])
  (.seq (.block 0 (sr [mv 18 9,od 19 (.D7 false (t 18) (.const (.nilp))),mv 20 19,og 21 (.move (t 10)) 20 false,
 og 22 (.D7 false (t 21) (.const (.nilp))) 20 false,od 23 (.pick (t 20) (.const (.bool true)) (t 22)),mv 17 23]
  (.cond (t 17)
  (sr [mc 8 5]
  .ret)
  (sr [mv 25 2,mv 26 3,od 27 (.bin .eql (t 25) (t 26)),mv 24 27]
  (.cond (t 24)
  (sr [mc 8 1]
  .ret)
  (.seq (.drawn [mv 29 9,op 30 (.nilCheck (t 29)) [0],op 31 (.fieldAddr 4 (t 30)) [1],op 32 (.load false 1 (t 31)) [2],
 mv 33 10,op 34 (.nilCheck (t 33)) [4],op 35 (.fieldAddr 4 (t 34)) [5],op 36 (.load false 1 (t 35)) [6],
 op 37 (.bin .neq (t 32) (t 36)) [3,7],op 38 (.move (t 37)) [8],⟨some 39,.move (t 9),some (38,false),[9]⟩,⟨some 40,.nilCheck (t 39),some (38,false),[10,9]⟩,
 ⟨some 41,.fieldAddr 4 (t 40),some (38,false),[11,9]⟩,⟨some 42,.load false 1 (t 41),some (38,false),[12,9]⟩,⟨some 43,.bin .lss (t 42) (ic 1),some (38,false),[13,9]⟩,op 44 (.pick (t 38) (.const (.bool true)) (t 43)) [9,14],
 op 28 (.move (t 44)) [15,9]])
  (.cond (t 28)
  (sr [mc 8 25]
  .ret)
  (sr [fa 46 0 4,ld 47 46,mv 48 2,mv 49 3,
 ca 50 816 495 [(t 47),(t 48),(t 49)],ln 51 50,eq 52 51 0,mv 45 52]
  (.cond (t 45)
  (sr [mc 8 13]
  .ret)
  (.seq (.drawn [mv 54 9,op 55 (.nilCheck (t 54)) [0],op 56 (.fieldAddr 2 (t 55)) [1],op 57 (.load false 1 (t 56)) [2],
 op 58 (.bin .neq (t 57) (.const (.str []))) [3],op 59 (.move (t 58)) [4],⟨some 60,.move (t 10),some (59,true),[5]⟩,⟨some 61,.nilCheck (t 60),some (59,true),[6,5]⟩,
 ⟨some 62,.fieldAddr 2 (t 61),some (59,true),[7,5]⟩,⟨some 63,.load false 1 (t 62),some (59,true),[8,5]⟩,⟨some 64,.bin .neq (t 63) (.const (.str [])),some (59,true),[9,5]⟩,op 65 (.pick (t 59) (t 64) (.const (.bool false))) [5,10],
 op 66 (.move (t 65)) [11,5],⟨some 67,.move (t 9),some (66,true),[12]⟩,⟨some 68,.nilCheck (t 67),some (66,true),[13,12]⟩,⟨some 69,.fieldAddr 2 (t 68),some (66,true),[14,12]⟩,
 ⟨some 70,.load false 1 (t 69),some (66,true),[15,12]⟩,⟨some 71,.move (t 10),some (66,true),[12]⟩,⟨some 72,.nilCheck (t 71),some (66,true),[17,12]⟩,⟨some 73,.fieldAddr 2 (t 72),some (66,true),[18,12]⟩,
 ⟨some 74,.load false 1 (t 73),some (66,true),[19,12]⟩,⟨some 75,.bin .neq (t 70) (t 74),some (66,true),[16,20,12]⟩,op 76 (.pick (t 66) (t 75) (.const (.bool false))) [12,21],op 53 (.move (t 76)) [22,12]])
  (.cond (t 53)
  (sr [mc 8 24]
  .ret)
  .skip)))))))))))
  (sr [mc 8 0]
  .ret))))
def Ka:aZ:=⟨4,77,[],[.tmp 8],J9,none⟩
abbrev G7:az:=
  (sr [ls 12 11 10]
  (.seq (.cond (t 12)
  .skip
  (.exit 0))
  (.seq (.block 1 (sr [od 13 (.indexAddr 4 (t 9) (t 11)),la 14 4 13,od 7 (.new 128 4 (.const (.agg [i0,.lit 2 [],i0,i0]))),ow (.store true 4 (t 7) (t 14))]
  (sr [fa 15 2 7,ld 16 15,ld 17 2,od 18 (.bin .eql (t 16) (t 17)),
 mv 19 18,og 20 (.fieldAddr 3 (t 7)) 19 true,og 21 (.load false 1 (t 20)) 19 true,og 22 (.move (t 0)) 19 true,
 og 23 (.bin .eql (t 21) (t 22)) 19 true,od 24 (.pick (t 19) (t 23) (.const (.bool false))),mv 25 24,og 26 (.fieldAddr 2 (t 7)) 25 false,
 og 27 (.load false 1 (t 26)) 25 false,og 28 (.move (t 0)) 25 false,og 29 (.bin .eql (t 27) (t 28)) 25 false,og 30 (.move (t 29)) 25 false,
 og 31 (.fieldAddr 3 (t 7)) 30 true,og 32 (.load false 1 (t 31)) 30 true,og 33 (.load false 1 (t 2)) 30 true,og 34 (.bin .eql (t 32) (t 33)) 30 true,
 og 35 (.pick (t 30) (t 34) (.const (.bool false))) 25 false,od 36 (.pick (t 25) (.const (.bool true)) (t 35))]
  (.cond (t 36)
  (rn [mv 37 5,fa 38 1 7,ld 39 38,ca 40 656 496 [(t 39)],
 od 41 (.bin .add (t 37) (t 40)),mv 5 41])
  .skip))))
  (rn [ad 42 11 1,mv 11 42]))))
def Kn:az:=
 (sr [mc 4 0]
 (sr [mc 5 0]
 (.seq (sr [fa 8 0 1,ld 9 8,ln 10 9,mc 11 0]
 (.block 0 (.loop G7)))
 (sr [mv 43 5,mv 4 43]
 .ret))))
def NH:aZ:=⟨3,44,[],[.tmp 4],Kn,none⟩
abbrev G1:az:=
 (rn [od 4 (.new 80 4 (.const (.agg [i0,i0,i0,i0]))),ow (.store true 4 (t 4) (t 9))])
abbrev G2:az:=
  (.block 1 (sr [fa 10 2 4,la 11 2 10,fa 12 0 4,la 13 2 12,
 ca 14 240 37 [(t 11),(t 13)],od 5 (.new 96 2 (.const (.agg [i0,i0]))),ow (.store true 2 (t 5) (t 14))]
  (.drawn [ld 15 2,la 16 2 5,la 17 2 5,op 18 (.call 304 false (fc 38) [(t 16),(t 17)]) [1,2],
 op 19 (.call 320 false (fc 27) [(t 18)]) [3,3],op 20 (.bin .add (t 15) (t 19)) [0,4],⟨none,.store false 1 (t 2) (t 20),none,([5,4]++rg 6)⟩])))
def JT:az:=
 (sr [od 2 (.new 48 1 (ic 0))]
 (.seq (sr [mv 6 0,ca 7 128 182 [(t 6)]]
 (.block 0 (.mJ (t 7) [8,9] G1 G2)))
 (sr [ld 21 2,ow (.store false 1 (t 2) (t 21))]
 .ret)))
def Nt:aZ:=⟨1,22,[],[.cell 2 false 1],JT,none⟩
abbrev G8:az:=
  (sr [ls 12 11 10]
  (.seq (.cond (t 12)
  .skip
  (.exit 0))
  (.seq (.block 1 (sr [mv 13 11,od 14 (.indexAddr 1 (t 9) (t 11)),ld 15 14,mv 7 13,
 mv 8 15]
  (sr [mv 16 7,eq 17 16 0,mv 18 17,og 19 (.move (t 1)) 18 false,
 og 20 (.move (t 8)) 18 false,og 21 (.call 352 false (t 19) [(t 20)]) 18 false,og 22 (.move (t 1)) 18 false,og 23 (.move (t 6)) 18 false,
 og 24 (.call 400 false (t 22) [(t 23)]) 18 false,og 25 (.bin .gtr (t 21) (t 24)) 18 false,od 26 (.pick (t 18) (.const (.bool true)) (t 25))]
  (.cond (t 26)
  (rn [mv 27 8,mv 6 27])
  .skip))))
  (rn [ad 28 11 1,mv 11 28]))))
def Ko:az:=
  (sr [mc 4 0,od 5 (.move (.const (.bool false)))]
  (sr [mc 6 0]
  (.seq (sr [mv 9 0,ln 10 9,mc 11 0]
  (.block 0 (.loop G8)))
  (sr [mv 29 6,mv 30 0,ln 31 30,od 32 (.bin .gtr (t 31) (ic 0)),
 mv 4 29,mv 5 32]
  .ret))))
def NI:aZ:=⟨2,33,[],[.tmp 4,.tmp 5],Ko,none⟩
def Ky:az:=
 (sr [od 4 (.new 80 2 (.const (.agg [i0,i0])))]
 (sr [mv 5 0,mv 6 1,od 7 (.build [i0,i0] [(0,1,(t 5)),(1,1,(t 6))]),ow (.store true 2 (t 4) (t 7))]
 .ret))
def NN:aZ:=⟨2,8,[],[.cell 4 true 2],Ky,none⟩
def Kb:az:=
 (sr [mc 4 0]
 (.seq (sr [mv 5 0,ld 6 1,od 7 (.bin .eql (t 5) (t 6))]
 (.cond (t 7)
 (sr [ld 8 2,mv 4 8]
 .ret)
 .skip))
 (sr [mv 9 0,mv 4 9]
 .ret)))
def Kc:aZ:=⟨3,10,[],[.tmp 4],Kb,none⟩
abbrev Kd:az:=
 (sr [ls 9 8 7]
 (.seq (.cond (t 9)
 .skip
 (.exit 0))
 (.seq (.block 1 (sr [od 10 (.indexAddr 1 (t 6) (t 8)),ld 11 10,mv 5 11]
 (sr [mv 12 5,mv 13 3,od 14 (.bin .neq (t 12) (t 13))]
 (.cond (t 14)
 (sr [mv 15 5,mv 2 15]
 .ret)
 .skip))))
 (rn [ad 16 8 1,mv 8 16]))))
def ND:az:=
 (sr [od 2 (.move (.const (.str [])))]
 (sr [od 3 (.move (.const (.str [])))]
 (.seq (sr [mv 6 0,ln 7 6,mc 8 0]
 (.block 0 (.loop Kd)))
 (sr [mv 17 3,mv 2 17]
 .ret))))
def f17:aZ:=⟨1,18,[],[.tmp 2],ND,none⟩
abbrev G5:az:=
  (.seq (sr [mv 11 5,mv 12 0,ln 13 12,ls 14 11 13]
  (.cond (t 14)
  .skip
  (.exit 0)))
  (.seq (.block 1 (.seq (.drawn [mv 17 0,mv 18 5,op 19 (.indexAddr 2 (t 17) (t 18)) [0,1],op 20 (.load true 2 (t 19)) [2],
 mv 21 1,mv 22 5,op 23 (.indexAddr 2 (t 21) (t 22)) [4,5],op 24 (.load true 2 (t 23)) [6],
 op 25 (.Gz true [1,1] (t 20) (t 24)) [3,7]])
  (.cond (t 25)
  (sr [od 4 (.move (.const (.bool false)))]
  .ret)
  .skip)))
  (rn [mv 15 5,ad 16 15 1,mv 5 16])))
def Kg:az:=
  (sr [od 4 (.move (.const (.bool false)))]
  (.seq (sr [mv 6 0,ln 7 6,mv 8 1,ln 9 8,
 od 10 (.bin .neq (t 7) (t 9))]
  (.cond (t 10)
  (sr [od 4 (.move (.const (.bool false)))]
  .ret)
  .skip))
  (.seq (sr [mc 5 0]
  (.block 0 (.loop G5)))
  (sr [od 4 (.move (.const (.bool true)))]
  .ret))))
def abV:aZ:=⟨2,26,[],[.tmp 4],Kg,none⟩
def Kh:az:=
  (sr [od 2 (.new 48 8 (t 0)),od 3 (.new 64 8 (t 1)),od 4 (.move (.const (.bool false)))]
  (sr [fa 6 1 2,ld 7 6,fa 8 1 3,ld 9 8,
 ca 10 176 165 [(t 7),(t 9)],mv 5 10]
  (sr [mv 11 5,mv 12 11,og 13 (.fieldAddr 0 (t 2)) 12 true,og 14 (.load false 1 (t 13)) 12 true,
 og 15 (.fieldAddr 0 (t 3)) 12 true,og 16 (.load false 1 (t 15)) 12 true,og 17 (.bin .eql (t 14) (t 16)) 12 true,od 18 (.pick (t 12) (t 17) (.const (.bool false))),
 mv 19 18,og 20 (.fieldAddr 2 (t 2)) 19 true,og 21 (.load false 1 (t 20)) 19 true,og 22 (.fieldAddr 2 (t 3)) 19 true,
 og 23 (.load false 1 (t 22)) 19 true,og 24 (.bin .eql (t 21) (t 23)) 19 true,od 25 (.pick (t 19) (t 24) (.const (.bool false))),mv 26 25,
 og 27 (.fieldAddr 3 (t 2)) 26 true,og 28 (.load false 1 (t 27)) 26 true,og 29 (.fieldAddr 3 (t 3)) 26 true,og 30 (.load false 1 (t 29)) 26 true,
 og 31 (.bin .eql (t 28) (t 30)) 26 true,od 32 (.pick (t 26) (t 31) (.const (.bool false))),mv 33 32,og 34 (.fieldAddr 4 (t 2)) 33 true,
 og 35 (.load false 1 (t 34)) 33 true,og 36 (.fieldAddr 4 (t 3)) 33 true,og 37 (.load false 1 (t 36)) 33 true,og 38 (.bin .eql (t 35) (t 37)) 33 true,
 od 39 (.pick (t 33) (t 38) (.const (.bool false))),mv 40 39,og 41 (.fieldAddr 5 (t 2)) 40 true,og 42 (.load false 1 (t 41)) 40 true,
 og 43 (.fieldAddr 5 (t 3)) 40 true,og 44 (.load false 1 (t 43)) 40 true,og 45 (.ME false (t 42) (t 44)) 40 true,od 46 (.pick (t 40) (t 45) (.const (.bool false))),
 mv 47 46,og 48 (.fieldAddr 6 (t 2)) 47 true,og 49 (.load false 1 (t 48)) 47 true,og 50 (.fieldAddr 6 (t 3)) 47 true,
 og 51 (.load false 1 (t 50)) 47 true,og 52 (.bin .eql (t 49) (t 51)) 47 true,od 53 (.pick (t 47) (t 52) (.const (.bool false))),mv 54 53,
 og 55 (.fieldAddr 7 (t 2)) 54 true,og 56 (.load false 1 (t 55)) 54 true,og 57 (.fieldAddr 7 (t 3)) 54 true,og 58 (.load false 1 (t 57)) 54 true,
 og 59 (.bin .eql (t 56) (t 58)) 54 true,od 60 (.pick (t 54) (t 59) (.const (.bool false))),mv 4 60]
  .ret)))
def abW:aZ:=⟨2,61,[],[.tmp 4],Kh,none⟩
def Kz:az:=
  (sr [od 10 (.cU 177 4)]
  (.seq (sr [mv 12 2,mv 13 3,od 14 (.bin .eql (t 12) (t 13))]
  (.cond (t 14)
  (sr [mv 15 0,mv 10 15]
  .ret)
  .skip))
  (sr [mv 16 0,ln 17 16,ad 18 17 1,mv 19 1,
 mv 20 2,mv 21 3,od 22 (.build [i0,.lit 2 [],i0,i0] [(0,1,(t 18)),(1,1,(t 19)),(2,1,(t 20)),(3,1,(t 21))]),od 11 (.new 192 4 (.const (.agg [i0,.lit 2 [],i0,i0]))),
 ow (.store true 4 (t 11) (t 22))]
  (.seq (sr [mv 23 4,ca 24 400 85 [(t 23),(ic 2)],eq 25 24 1]
  (.cond (t 25)
  (rn [la 26 4 11,ca 27 448 131 [(t 26)],ow (.store true 4 (t 11) (t 27))])
  .skip))
  (sr [mv 28 0,la 29 4 11,od 30 (.buildSlice 496 4 (.agg [i0,.nils,i0,i0]) 1 [(0,(t 29))]),od 31 (.append 17 4 2872193639704 (t 28) (t 30)),
 mv 10 31]
  .ret)))))
def f113:aZ:=⟨5,32,[some 4,none,none,none,some 2],[.tmp 10],Kz,none⟩
abbrev Hc:az:=
  (.seq (sr [mv 20 10,mv 21 8,od 22 (.bin .leq (t 20) (t 21))]
  (.cond (t 22)
  .skip
  (.exit 0)))
  (.seq (.block 1 (.seq (.drawn [fa 25 0 3,op 26 (.load false 1 (t 25)) [0],fa 27 0 9,op 28 (.load false 1 (t 27)) [2],
 mv 29 10,op 30 (.bin .mul (t 28) (t 29)) [3,4],mv 31 8,op 32 (.bin .add (t 31) (ic 1)) [6],
 op 33 (.bin .quo (t 30) (t 32)) [5,7],op 34 (.bin .add (t 26) (t 33)) [1,8],fa 35 1 3,op 36 (.load false 1 (t 35)) [10],
 fa 37 1 9,op 38 (.load false 1 (t 37)) [12],mv 39 10,op 40 (.bin .mul (t 38) (t 39)) [13,14],
 mv 41 8,op 42 (.bin .add (t 41) (ic 1)) [16],op 43 (.bin .quo (t 40) (t 42)) [15,17],op 44 (.bin .add (t 36) (t 43)) [11,18],
 op 45 (.build [i0,i0] [(0,1,(t 34)),(1,1,(t 44))]) [9,19],od 11 (.new 192 2 (.const (.agg [i0,i0]))),⟨none,.store true 2 (t 11) (t 45),none,([21,20]++rg 22)⟩])
  (sr [mv 46 2,ca 47 768 85 [(t 46),(ic 21)],od 48 (.bin .sub (t 47) (ic 10)),mv 49 8,
 od 50 (.bin .quo (t 49) (ic 2)),od 51 (.bin .add (ic 1) (t 50)),od 52 (.bin .quo (t 48) (t 51)),mv 12 52]
  (.seq (sr [fa 53 0 9,ld 54 53,fa 55 1 9,ld 56 55,
 od 57 (.bin .gtr (t 54) (t 56))]
  (.cond (t 57)
  (rn [fa 58 1 11,ld 59 58,mv 60 12,od 61 (.bin .add (t 59) (t 60)),
 fa 62 1 11,ow (.store false 1 (t 62) (t 61))])
  (rn [fa 63 0 11,ld 64 63,mv 65 12,od 66 (.bin .add (t 64) (t 65)),
 fa 67 0 11,ow (.store false 1 (t 67) (t 66))])))
  (rn [mv 68 7,la 69 2 11,od 70 (.buildSlice 1136 2 (.agg [i0,i0]) 1 [(0,(t 69))]),od 71 (.append 129 2 8278675785407 (t 68) (t 70)),
 od 7 (.nO 129 (t 71))])))))
  (rn [mv 23 10,ad 24 23 1,mv 10 24])))
def KA:az:=
  (sr [od 3 (.new 64 2 (t 0)),od 4 (.new 80 2 (t 1)),od 6 (.move (.const (.lit 2 [])))]
  (sr [la 13 2 3,od 14 (.buildSlice 240 2 (.agg [i0,i0]) 1 [(0,(t 13))]),od 7 (.nO 129 (t 14))]
  (sr [mv 15 2,ca 16 272 85 [(t 15),(ic 4)],mv 8 16]
  (sr [la 17 2 4,la 18 2 3,ca 19 320 161 [(t 17),(t 18)],od 9 (.new 160 2 (.const (.agg [i0,i0]))),
 ow (.store true 2 (t 9) (t 19))]
  (.seq (sr [mc 10 1]
  (.block 0 (.loop Hc)))
  (sr [mv 72 7,la 73 2 4,od 74 (.buildSlice 1200 2 (.agg [i0,i0]) 1 [(0,(t 73))]),od 75 (.append 129 2 8278675785407 (t 72) (t 74)),
 mv 6 75]
  .ret))))))
def f114:aZ:=⟨3,76,[none,none,some 2],[.tmp 6],KA,none⟩
def KB:az:=
  (sr [od 6 (.new 112 2 (.const (.agg [i0,i0])))]
  (sr [mv 10 2,od 11 (.bin .mul (ic 4) (t 10)),mv 12 1,od 13 (.bin .add (t 11) (t 12)),
 mv 7 13]
  (sr [mc 8 0]
  (sr [mc 9 0]
  (.seq (sr [mv 14 7,od 15 (.bin .mul (ic 2) (t 14)),ad 16 15 1,mv 17 0,
 ln 18 17,ls 19 16 18]
  (.cond (t 19)
  (sr [mv 20 0,mv 21 7,od 22 (.bin .mul (ic 2) (t 21)),od 23 (.indexAddr 1 (t 20) (t 22)),
 ld 24 23,ca 25 416 93 [(t 24),(ic 21)],od 26 (.bin .sub (t 25) (ic 10)),mv 8 26]
  (rn [mv 27 0,mv 28 7,od 29 (.bin .mul (ic 2) (t 28)),ad 30 29 1,
 od 31 (.indexAddr 1 (t 27) (t 30)),ld 32 31,ca 33 544 93 [(t 32),(ic 21)],od 34 (.bin .sub (t 33) (ic 10)),
 mv 9 34]))
  .skip))
  (sr [mv 35 1,od 36 (.bin .mul (ic 100) (t 35)),od 37 (.bin .add (ic 40) (t 36)),mv 38 8,
 od 39 (.bin .add (t 37) (t 38)),mv 40 2,od 41 (.bin .mul (ic 100) (t 40)),od 42 (.bin .add (ic 40) (t 41)),
 mv 43 9,od 44 (.bin .add (t 42) (t 43)),od 45 (.build [i0,i0] [(0,1,(t 39)),(1,1,(t 44))]),ow (.store true 2 (t 6) (t 45))]
  .ret))))))
def f115:aZ:=⟨3,46,[],[.cell 6 true 2],KB,none⟩
def KC:az:=
  (sr [od 5 (.new 96 6 (t 0)),mc 10 0]
  (.seq (sr [mv 11 3,od 12 (.bin .lss (t 11) (ic 0)),mv 13 12,og 14 (.move (t 4)) 13 false,
 og 15 (.bin .lss (t 14) (ic 0)) 13 false,od 16 (.pick (t 13) (.const (.bool true)) (t 15)),mv 17 16,og 18 (.move (t 3)) 17 false,
 og 19 (.move (t 1)) 17 false,og 20 (.bin .geq (t 18) (t 19)) 17 false,od 21 (.pick (t 17) (.const (.bool true)) (t 20)),mv 22 21,
 og 23 (.move (t 4)) 22 false,og 24 (.move (t 2)) 22 false,og 25 (.bin .geq (t 23) (t 24)) 22 false,od 26 (.pick (t 22) (.const (.bool true)) (t 25))]
  (.cond (t 26)
  (sr [mc 10 0]
  .ret)
  .skip))
  (sr [mv 27 3,mv 28 4,od 29 (.bE 3 2 (t 5) (t 27)),od 30 (.bE 2 1 (t 29) (t 28)),
 ld 31 30,mv 10 31]
  .ret)))
def abt:aZ:=⟨5,32,[],[.tmp 10],KC,none⟩
def KD:az:=
  (sr [od 5 (.new 96 2 (t 1)),od 8 (.move (.const (.lit 4 [])))]
  (sr [mv 11 3,ca 12 208 85 [(t 11),(ic 8)],od 13 (.bin .add (ic 6) (t 12)),mv 9 13]
  (sr [fa 14 0 5,ld 15 14,mv 16 9,od 17 (.bin .sub (t 15) (t 16)),
 fa 18 1 5,ld 19 18,mv 20 9,od 21 (.bin .sub (t 19) (t 20)),
 od 22 (.build [i0,i0] [(0,1,(t 17)),(1,1,(t 21))]),fa 23 0 5,ld 24 23,mv 25 9,
 od 26 (.bin .add (t 24) (t 25)),fa 27 1 5,ld 28 27,mv 29 9,
 od 30 (.bin .sub (t 28) (t 29)),od 31 (.build [i0,i0] [(0,1,(t 26)),(1,1,(t 30))]),fa 32 0 5,ld 33 32,
 mv 34 9,od 35 (.bin .add (t 33) (t 34)),fa 36 1 5,ld 37 36,
 mv 38 9,od 39 (.bin .add (t 37) (t 38)),od 40 (.build [i0,i0] [(0,1,(t 35)),(1,1,(t 39))]),fa 41 0 5,
 ld 42 41,mv 43 9,od 44 (.bin .sub (t 42) (t 43)),fa 45 1 5,
 ld 46 45,mv 47 9,od 48 (.bin .sub (t 46) (t 47)),od 49 (.build [i0,i0] [(0,1,(t 44)),(1,1,(t 48))]),
 od 50 (.buildSlice 816 2 (.agg [i0,i0]) 4 [(0,(t 22)),(1,(t 31)),(2,(t 40)),(3,(t 49))]),od 10 (.nO 177 (t 50))]
  (.seq (sr [mv 51 3,ca 52 848 85 [(t 51),(ic 2)],eq 53 52 1]
  (.cond (t 53)
  (rn [fa 54 0 5,ld 55 54,mv 56 9,od 57 (.bin .sub (t 55) (t 56)),
 fa 58 1 5,ld 59 58,od 60 (.build [i0,i0] [(0,1,(t 57)),(1,1,(t 59))]),fa 61 0 5,
 ld 62 61,fa 63 1 5,ld 64 63,mv 65 9,
 od 66 (.bin .sub (t 64) (t 65)),od 67 (.build [i0,i0] [(0,1,(t 62)),(1,1,(t 66))]),fa 68 0 5,ld 69 68,
 mv 70 9,od 71 (.bin .add (t 69) (t 70)),fa 72 1 5,ld 73 72,
 ad 74 73 2,od 75 (.build [i0,i0] [(0,1,(t 71)),(1,1,(t 74))]),fa 76 0 5,ld 77 76,
 fa 78 1 5,ld 79 78,mv 80 9,od 81 (.bin .add (t 79) (t 80)),
 od 82 (.build [i0,i0] [(0,1,(t 77)),(1,1,(t 81))]),fa 83 0 5,ld 84 83,mv 85 9,
 od 86 (.bin .sub (t 84) (t 85)),fa 87 1 5,ld 88 87,od 89 (.build [i0,i0] [(0,1,(t 86)),(1,1,(t 88))]),
 od 90 (.buildSlice 1456 2 (.agg [i0,i0]) 5 [(0,(t 60)),(1,(t 67)),(2,(t 75)),(3,(t 82)),(4,(t 89))]),od 10 (.nO 177 (t 90))])
  .skip))
  (sr [mv 91 0,mv 92 10,mv 93 2,mv 94 3,
 od 95 (.call 1536 true (fc 113) [(t 91),(t 92),(ic 28),(t 93),(t 94)]),mv 8 95]
  .ret)))))
def abu:aZ:=⟨4,96,[some 4,none,none,some 2],[.tmp 8],KD,none⟩
abbrev Hd:az:=
  (.seq (sr [mv 7 4,mv 8 0,ln 9 8,ls 10 7 9]
  (.cond (t 10)
  .skip
  (.exit 0)))
  (.seq (.block 1 (.seq (sr [mv 13 0,mv 14 4,od 15 (.indexAddr 4 (t 13) (t 14)),fa 16 2 15,
 ld 17 16,od 18 (.bin .neq (t 17) (ic 0))]
  (.cond (t 18)
  (rn [mv 19 3,mv 20 0,mv 21 4,od 22 (.indexAddr 4 (t 20) (t 21)),
 fa 23 2 22,ld 24 23,ca 25 416 162 [(t 19),(t 24)],od 3 (.nO 65 (t 25))])
  .skip))
  (sr [mv 26 0,mv 27 4,od 28 (.indexAddr 4 (t 26) (t 27)),fa 29 3 28,
 ld 30 29,od 31 (.bin .neq (t 30) (ic 0))]
  (.cond (t 31)
  (rn [mv 32 3,mv 33 0,mv 34 4,od 35 (.indexAddr 4 (t 33) (t 34)),
 fa 36 3 35,ld 37 36,ca 38 624 162 [(t 32),(t 37)],od 3 (.nO 65 (t 38))])
  .skip))))
  (rn [mv 11 4,ad 12 11 1,mv 4 12])))
abbrev He:az:=
  (.seq (sr [mv 39 6,mv 40 3,ln 41 40,ls 42 39 41]
  (.cond (t 42)
  .skip
  (.exit 2)))
  (.seq (.block 3 (rn [mv 45 5,mv 46 3,mv 47 6,od 48 (.indexAddr 1 (t 46) (t 47)),
 ld 49 48,od 50 (.build [i0,.str [],.str [],i0,i0] [(0,1,(t 49))]),od 51 (.buildSlice 832 5 (.agg [i0,.str [],.str [],i0,i0]) 1 [(0,(t 50))]),od 52 (.append 97 5 2469078742875 (t 45) (t 51)),
 od 5 (.nO 97 (t 52))]))
  (rn [mv 43 6,ad 44 43 1,mv 6 44])))
def KE:az:=
 (sr [od 2 (.cU 49 5)]
 (sr [od 3 (.move (.const (.lit 1 [])))]
 (.seq (sr [mc 4 0]
 (.block 0 (.loop Hd)))
 (sr [od 5 (.cU 97 5)]
 (.seq (sr [mc 6 0]
 (.block 2 (.loop He)))
 (sr [mv 53 5,mv 2 53]
 .ret))))))
def abv:aZ:=⟨1,54,[],[.tmp 2],KE,none⟩
def NA:az:=
  (sr [mc 4 0]
  (sr [mv 5 0,mv 6 1,od 7 (.bin .rem (t 5) (t 6)),mv 8 1,
 od 9 (.bin .add (t 7) (t 8)),mv 10 1,od 11 (.bin .rem (t 9) (t 10)),mv 4 11]
  .ret))
def f93:aZ:=⟨2,12,[],[.tmp 4],NA,none⟩
abbrev Hf:az:=
  (.seq (sr [mv 25 13,mv 26 12,od 27 (.bin .leq (t 25) (t 26))]
  (.cond (t 27)
  .skip
  (.exit 0)))
  (.seq (.block 1 (.seq (.drawn [fa 30 0 6,op 31 (.load false 1 (t 30)) [0],fa 32 0 7,op 33 (.load false 1 (t 32)) [2],
 fa 34 0 6,op 35 (.load false 1 (t 34)) [4],op 36 (.bin .sub (t 33) (t 35)) [3,5],mv 37 13,
 op 38 (.bin .mul (t 36) (t 37)) [6,7],mv 39 12,op 40 (.bin .add (t 39) (ic 1)) [9],op 41 (.bin .quo (t 38) (t 40)) [8,10],
 op 42 (.bin .add (t 31) (t 41)) [1,11],fa 43 1 6,op 44 (.load false 1 (t 43)) [13],fa 45 1 7,
 op 46 (.load false 1 (t 45)) [15],fa 47 1 6,op 48 (.load false 1 (t 47)) [17],op 49 (.bin .sub (t 46) (t 48)) [16,18],
 mv 50 13,op 51 (.bin .mul (t 49) (t 50)) [19,20],mv 52 12,op 53 (.bin .add (t 52) (ic 1)) [22],
 op 54 (.bin .quo (t 51) (t 53)) [21,23],op 55 (.bin .add (t 44) (t 54)) [14,24],op 56 (.build [i0,i0] [(0,1,(t 42)),(1,1,(t 55))]) [12,25],od 14 (.new 240 2 (.const (.agg [i0,i0]))),
 ⟨none,.store true 2 (t 14) (t 56),none,([27,26]++rg 28)⟩])
  (sr [mv 57 4,ca 58 944 85 [(t 57),(ic 17)],od 59 (.bin .sub (t 58) (ic 8)),mv 15 59]
  (.seq (sr [fa 60 1 6,ld 61 60,fa 62 1 7,ld 63 62,
 od 64 (.bin .eql (t 61) (t 63))]
  (.cond (t 64)
  (rn [fa 65 1 14,ld 66 65,mv 67 15,od 68 (.bin .add (t 66) (t 67)),
 fa 69 1 14,ow (.store false 1 (t 69) (t 68))])
  .skip))
  (.seq (sr [fa 70 0 6,ld 71 70,fa 72 0 7,ld 73 72,
 od 74 (.bin .eql (t 71) (t 73))]
  (.cond (t 74)
  (rn [fa 75 0 14,ld 76 75,mv 77 15,od 78 (.bin .add (t 76) (t 77)),
 fa 79 0 14,ow (.store false 1 (t 79) (t 78))])
  .skip))
  (rn [fa 80 1 11,ld 81 80,la 82 2 14,od 83 (.buildSlice 1344 2 (.agg [i0,i0]) 1 [(0,(t 82))]),
 od 84 (.append 195 2 8278675785407 (t 81) (t 83)),fa 85 1 11,ow (.store false 1 (t 85) (t 84))]))))))
  (rn [mv 28 13,ad 29 28 1,mv 13 29])))
def KF:az:=
  (sr [od 6 (.new 112 2 (t 1)),od 7 (.new 128 2 (t 2)),od 10 (.move (.const (.lit 8 [])))]
  (sr [mv 16 0,ln 17 16,od 18 (.bin .add (ic 41) (t 17)),mv 19 3,
 la 20 2 6,od 21 (.buildSlice 352 2 (.agg [i0,i0]) 1 [(0,(t 20))]),od 22 (.build [i0,.nils,i0,.str [],.str [],.bool false,i0,i0] [(0,1,(t 18)),(2,1,(t 19)),(1,1,(t 21))]),od 11 (.new 192 8 (.const (.agg [i0,.nils,i0,.str [],.str [],.bool false,i0,i0]))),
 ow (.store true 8 (t 11) (t 22))]
  (sr [mv 23 4,ca 24 400 85 [(t 23),(ic 3)],mv 12 24]
  (.seq (sr [mc 13 1]
  (.block 0 (.loop Hf)))
  (sr [fa 86 1 11,ld 87 86,la 88 2 7,od 89 (.buildSlice 1440 2 (.agg [i0,i0]) 1 [(0,(t 88))]),
 od 90 (.append 195 2 8278675785407 (t 87) (t 89)),fa 91 1 11,ow (.store false 1 (t 91) (t 90))]
  (sr [od 92 (.buildSlice 1488 1 (.str []) 2 [(0,(.const (.str [112,97,116,104]))),(1,(.const (.str [114,111,97,100])))]),mv 93 4,ca 94 1520 85 [(t 93),(ic 2)],od 95 (.indexAddr 1 (t 92) (t 94)),
 ld 96 95,fa 97 3 11,ow (.store false 1 (t 97) (t 96))]
  (sr [od 98 (.buildSlice 1584 1 (.str []) 4 [(0,(.const (.str []))),(1,(.const (.str []))),(2,(.const (.str [82,105,110,103]))),(3,(.const (.str [79,108,100,32,87,97,121])))]),mv 99 4,ca 100 1616 85 [(t 99),(ic 4)],od 101 (.indexAddr 1 (t 98) (t 100)),
 ld 102 101,fa 103 4 11,ow (.store false 1 (t 103) (t 102))]
  (sr [mv 104 4,ca 105 1696 85 [(t 104),(ic 4)],eq 106 105 0,fa 107 5 11,
 ow (.store false 1 (t 107) (t 106))]
  (sr [mv 108 4,ca 109 1760 85 [(t 108),(ic 60)],od 110 (.bin .add (ic 1) (t 109)),fa 111 6 11,
 ow (.store false 1 (t 111) (t 110))]
  (sr [mv 112 4,ca 113 1824 85 [(t 112),(ic 3)],mv 114 4,ca 115 1856 85 [(t 114),(ic 2)],
 od 116 (.bin .mul (t 113) (t 115)),od 117 (.bin .add (ic 1) (t 116)),fa 118 7 11,ow (.store false 1 (t 118) (t 117))]
  (sr [mv 119 0,la 120 8 11,od 121 (.buildSlice 1952 8 (.agg [i0,.nils,i0,.str [],.str [],.bool false,i0,i0]) 1 [(0,(t 120))]),od 122 (.append 17 8 1450901941607 (t 119) (t 121)),
 mv 10 122]
  .ret)))))))))))
def abw:aZ:=⟨5,123,[some 8,none,none,none,some 2],[.tmp 10],KF,none⟩
def KG:az:=
  (sr [od 4 (.new 80 2 (.const (.agg [i0,i0])))]
  (sr [mv 5 0,od 6 (.bin .mul (ic 80) (t 5)),od 7 (.bin .add (ic 55) (t 6)),mv 8 1,
 od 9 (.bin .mul (ic 70) (t 8)),od 10 (.bin .add (ic 65) (t 9)),od 11 (.build [i0,i0] [(0,1,(t 7)),(1,1,(t 10))]),ow (.store true 2 (t 4) (t 11))]
  .ret))
def abx:aZ:=⟨2,12,[],[.cell 4 true 2],KG,none⟩
def KH:az:=
  (sr [od 3 (.new 64 2 (t 1)),mc 4 0,od 5 (.move (.const (.bool false)))]
  (.seq (.drawn [mv 6 0,op 7 (.call 128 false (fc 164) [(t 6)]) [0],la 8 2 3,op 9 (.call 160 false (fc 163) [(t 7),(t 8)]) [1,2,1],
 op 10 (.extract (t 9) 0) [3],op 11 (.extract (t 9) 1) [3],op 4 (.move (t 10)) ([4,3]++rg 6),op 5 (.move (t 11)) ([5,6]++rg 7)])
  .ret))
def aby:aZ:=⟨2,12,[],[.tmp 4,.tmp 5],KH,none⟩
abbrev Hg:az:=
  (.seq (sr [mv 6 5,fa 7 1 2,ld 8 7,ln 9 8,
 ls 10 6 9]
  (.cond (t 10)
  .skip
  (.exit 0)))
  (.seq (.block 1 (sr [fa 13 1 2,ld 14 13,mv 15 5,od 16 (.indexAddr 5 (t 14) (t 15)),
 fa 17 0 16,ld 18 17,mv 19 1,od 20 (.bin .eql (t 18) (t 19))]
  (.cond (t 20)
  (sr [fa 21 1 2,ld 22 21,mv 23 5,od 24 (.indexAddr 5 (t 22) (t 23)),
 fa 25 4 24,ld 26 25,mv 4 26]
  .ret)
  .skip)))
  (rn [mv 11 5,ad 12 11 1,mv 5 12])))
def KI:az:=
 (sr [od 2 (.new 48 4 (t 0)),mc 4 0]
 (.seq (sr [mc 5 0]
 (.block 0 (.loop Hg)))
 (sr [mc 4 0]
 .ret)))
def abz:aZ:=⟨2,27,[],[.tmp 4],KI,none⟩
abbrev Hj:az:=
  (sr [ls 9 8 7]
  (.seq (.cond (t 9)
  .skip
  (.exit 0))
  (.seq (.block 1 (sr [mv 10 8,mv 5 10]
  (sr [mv 11 1,mv 12 0,mv 13 5,od 14 (.indexAddr 1 (t 12) (t 13)),
 ld 15 14,od 16 (.call 272 false (t 11) [(t 15)])]
  (.cond (t 16)
  (sr [mv 17 5,mv 4 17]
  .ret)
  .skip))))
  (rn [ad 18 8 1,mv 8 18]))))
def KO:az:=
 (sr [mc 4 0]
 (.seq (sr [mv 6 0,ln 7 6,mc 8 0]
 (.block 0 (.loop Hj)))
 (sr [mc 4 (-1)]
 .ret)))
def NO:aZ:=⟨2,19,[],[.tmp 4],KO,none⟩
abbrev w6:az:=
  (sr [ls 13 12 11]
  (.seq (.cond (t 13)
  .skip
  (.exit 0))
  (.seq (.block 1 (sr [od 14 (.indexAddr 4 (t 10) (t 12)),la 15 4 14,od 9 (.new 160 4 (.const (.agg [i0,.lit 2 [],i0,i0]))),ow (.store true 4 (t 9) (t 15))]
  (sr [fa 16 2 9,ld 17 16,mv 18 1,od 19 (.bin .eql (t 17) (t 18)),
 mv 20 19,og 21 (.fieldAddr 3 (t 9)) 20 true,og 22 (.load false 1 (t 21)) 20 true,og 23 (.move (t 2)) 20 true,
 og 24 (.bin .eql (t 22) (t 23)) 20 true,od 25 (.pick (t 20) (t 24) (.const (.bool false))),mv 26 25,og 27 (.fieldAddr 2 (t 9)) 26 false,
 og 28 (.load false 1 (t 27)) 26 false,og 29 (.move (t 2)) 26 false,og 30 (.bin .eql (t 28) (t 29)) 26 false,og 31 (.move (t 30)) 26 false,
 og 32 (.fieldAddr 3 (t 9)) 31 true,og 33 (.load false 1 (t 32)) 31 true,og 34 (.move (t 1)) 31 true,og 35 (.bin .eql (t 33) (t 34)) 31 true,
 og 36 (.pick (t 31) (t 35) (.const (.bool false))) 26 false,od 37 (.pick (t 26) (.const (.bool true)) (t 36))]
  (.cond (t 37)
  (rn [mv 38 7,fa 39 0 9,ld 40 39,od 41 (.buildSlice 672 1 (i0) 1 [(0,(t 40))]),
 od 42 (.append 129 1 15637498705947 (t 38) (t 41)),od 7 (.nO 129 (t 42))])
  .skip))))
  (rn [ad 43 12 1,mv 12 43]))))
def JR:az:=
 (sr [od 6 (.move (.const (.lit 1 [])))]
 (sr [od 7 (.cU 129 1)]
 (.seq (sr [mv 10 0,ln 11 10,mc 12 0]
 (.block 0 (.loop w6)))
 (sr [mv 44 7,ca 45 736 510 [(t 44)],mv 6 45]
 .ret))))
def JS:aZ:=⟨3,46,[],[.tmp 6],JR,none⟩
def Ku:az:=
 (sr [od 1 (.new 32 1 (t 0)),od 2 (.wX (.const (.nilfn)))]
 (sr [od 3 (.lE 221 [(t 1)]),od 2 (.wX (t 3))]
 .ret))
def NJ:aZ:=⟨1,4,[],[.tmp 2],Ku,none⟩
def NK:az:=
  (sr [od 2 (.new 48 2 (t 0)),od 3 (.new 64 2 (t 1)),od 4 (.new 80 2 (.const (.agg [i0,i0])))]
  (sr [fa 5 0 2,ld 6 5,fa 7 0 3,ld 8 7,
 od 9 (.bin .sub (t 6) (t 8)),fa 10 1 2,ld 11 10,fa 12 1 3,
 ld 13 12,od 14 (.bin .sub (t 11) (t 13)),od 15 (.build [i0,i0] [(0,1,(t 9)),(1,1,(t 14))]),ow (.store true 2 (t 4) (t 15))]
  .ret))
def f37:aZ:=⟨2,16,[],[.cell 4 true 2],NK,none⟩
abbrev Kv:az:=
  (.seq (sr [mv 11 3,mv 12 3,od 13 (.bin .mul (t 11) (t 12)),mv 14 0,
 od 15 (.bin .gtr (t 13) (t 14))]
  (.cond (t 15)
  .skip
  (.exit 0)))
  (.block 1 (rn [mv 16 3,od 17 (.bin .sub (t 16) (ic 1)),mv 3 17])))
abbrev Kw:az:=
  (.seq (sr [mv 18 3,od 19 (.bin .lss (t 18) (ic 3037000499)),mv 20 19,og 21 (.move (t 3)) 20 true,
 og 22 (.bin .add (t 21) (ic 1)) 20 true,og 23 (.move (t 3)) 20 true,og 24 (.bin .add (t 23) (ic 1)) 20 true,og 25 (.bin .mul (t 22) (t 24)) 20 true,
 og 26 (.move (t 0)) 20 true,og 27 (.bin .leq (t 25) (t 26)) 20 true,od 28 (.pick (t 20) (t 27) (.const (.bool false)))]
  (.cond (t 28)
  .skip
  (.exit 2)))
  (.block 3 (rn [mv 29 3,ad 30 29 1,mv 3 30])))
def NL:az:=
  (sr [mc 2 0]
  (.seq (sr [mv 4 0,od 5 (.bin .leq (t 4) (ic 0))]
  (.cond (t 5)
  (sr [mc 2 0]
  .ret)
  .skip))
  (sr [mv 6 0,od 7 (.rD (t 6)),ca 8 144 41 [(t 7)],od 9 (.rE .i64 (t 8)),
 od 10 (.min [(t 9),(ic 3037000499)]),mv 3 10]
  (.seq (.block 0 (.loop Kv))
  (.seq (.block 2 (.loop Kw))
  (sr [mv 31 3,mv 2 31]
  .ret))))))
def f27:aZ:=⟨1,32,[],[.tmp 2],NL,none⟩
def NM:az:=
  (sr [od 2 (.new 48 2 (t 0)),od 3 (.new 64 2 (t 1)),mc 4 0]
  (sr [fa 5 0 2,ld 6 5,fa 7 0 3,ld 8 7,
 od 9 (.bin .mul (t 6) (t 8)),fa 10 1 2,ld 11 10,fa 12 1 3,
 ld 13 12,od 14 (.bin .mul (t 11) (t 13)),od 15 (.bin .add (t 9) (t 14)),mv 4 15]
  .ret))
def f38:aZ:=⟨2,16,[],[.tmp 4],NM,none⟩
abbrev Hi:az:=
  (.seq (sr [mv 11 5,mv 12 0,ln 13 12,ls 14 11 13]
  (.cond (t 14)
  .skip
  (.exit 0)))
  (.seq (.block 1 (.seq (.drawn [mv 17 0,mv 18 5,op 19 (.indexAddr 2 (t 17) (t 18)) [0,1],op 20 (.load true 2 (t 19)) [2],
 mv 21 1,mv 22 5,op 23 (.indexAddr 2 (t 21) (t 22)) [4,5],op 24 (.load true 2 (t 23)) [6],
 op 25 (.Gz true [1,1] (t 20) (t 24)) [3,7]])
  (.cond (t 25)
  (sr [od 4 (.move (.const (.bool false)))]
  .ret)
  .skip)))
  (rn [mv 15 5,ad 16 15 1,mv 5 16])))
def KM:az:=
  (sr [od 4 (.move (.const (.bool false)))]
  (.seq (sr [mv 6 0,ln 7 6,mv 8 1,ln 9 8,
 od 10 (.bin .neq (t 7) (t 9))]
  (.cond (t 10)
  (sr [od 4 (.move (.const (.bool false)))]
  .ret)
  .skip))
  (.seq (sr [mc 5 0]
  (.block 0 (.loop Hi)))
  (sr [od 4 (.move (.const (.bool true)))]
  .ret))))
def KN:aZ:=⟨2,26,[],[.tmp 4],KM,none⟩
abbrev Hh:az:=
  (.seq (sr [mv 16 4,od 17 (.bin .geq (t 16) (ic 0))]
  (.cond (t 17)
  .skip
  (.exit 0)))
  (.seq (.block 1 (.drawn [fa 20 1 3,op 21 (.load false 1 (t 20)) [0],fa 22 1 1,op 23 (.load false 1 (t 22)) [2],
 mv 24 4,op 25 (.indexAddr 2 (t 23) (t 24)) [3,4],op 26 (.load true 2 (t 25)) [5],op 27 (.buildSlice 448 2 (.agg [i0,i0]) 1 [(0,(t 26))]) [6],
 op 28 (.append 67 2 8278675785407 (t 21) (t 27)) [1,7],op 29 (.fieldAddr 1 (t 3)) (rg 9),⟨none,.store false 1 (t 29) (t 28),none,([9,8,8]++rg 9)⟩]))
  (rn [mv 18 4,od 19 (.bin .sub (t 18) (ic 1)),mv 4 19])))
def KL:az:=
  (sr [od 1 (.new 32 4 (t 0)),od 2 (.new 48 4 (.const (.agg [i0,.lit 2 [],i0,i0])))]
  (sr [fa 5 0 1,ld 6 5,fa 7 3 1,ld 8 7,
 fa 9 2 1,ld 10 9,od 11 (.build [i0,.nils,i0,i0] [(0,1,(t 6)),(2,1,(t 8)),(3,1,(t 10))]),od 3 (.new 64 4 (.const (.agg [i0,.nils,i0,i0]))),
 ow (.store true 4 (t 3) (t 11))]
  (.seq (sr [fa 12 1 1,ld 13 12,ln 14 13,od 15 (.bin .sub (t 14) (ic 1)),
 mv 4 15]
  (.block 0 (.loop Hh)))
  (sr [od 30 (.oI [0,2,0,0] true 4 (t 3)),ow (.store true 4 (t 2) (t 30))]
  .ret))))
def abA:aZ:=⟨1,31,[],[.cell 2 true 4],KL,none⟩
def KP:az:=
  (sr [od 2 (.new 48 2 (t 0)),od 3 (.new 64 2 (t 1)),od 4 (.new 80 2 (.const (.agg [i0,i0])))]
  (sr [fa 5 0 2,ld 6 5,fa 7 0 3,ld 8 7,
 od 9 (.bin .sub (t 6) (t 8)),fa 10 1 2,ld 11 10,fa 12 1 3,
 ld 13 12,od 14 (.bin .sub (t 11) (t 13)),od 15 (.build [i0,i0] [(0,1,(t 9)),(1,1,(t 14))]),ow (.store true 2 (t 4) (t 15))]
  .ret))
def KQ:aZ:=⟨2,16,[],[.cell 4 true 2],KP,none⟩
abbrev G9:az:=
  (.seq (sr [mv 9 5,od 10 (.bin .gtr (t 9) (ic 0)),mv 11 10,og 12 (.move (t 0)) 11 true,
 og 13 (.move (t 5)) 11 true,og 14 (.bin .sub (t 13) (ic 1)) 11 true,og 15 (.indexAddr 1 (t 12) (t 14)) 11 true,og 16 (.load false 1 (t 15)) 11 true,
 og 17 (.move (t 1)) 11 true,og 18 (.bin .geq (t 16) (t 17)) 11 true,od 19 (.pick (t 11) (t 18) (.const (.bool false)))]
  (.cond (t 19)
  .skip
  (.exit 0)))
  (.block 1 (rn [mv 20 5,od 21 (.bin .sub (t 20) (ic 1)),mv 5 21])))
def Kq:az:=
  (sr [od 4 (.move (.const (.lit 1 [])))]
  (sr [mv 7 0,ln 8 7,mv 5 8]
  (.seq (.block 0 (.loop G9))
  (.seq (sr [mv 22 5,mv 23 0,ln 24 23,ls 25 22 24,
 mv 26 25,og 27 (.move (t 0)) 26 true,og 28 (.move (t 5)) 26 true,og 29 (.indexAddr 1 (t 27) (t 28)) 26 true,
 og 30 (.load false 1 (t 29)) 26 true,og 31 (.move (t 1)) 26 true,og 32 (.bin .eql (t 30) (t 31)) 26 true,od 33 (.pick (t 26) (t 32) (.const (.bool false)))]
  (.cond (t 33)
  (sr [mv 34 0,mv 4 34]
  .ret)
  .skip))
  (sr [od 35 (.buildSlice 576 1 (i0) 0 []),mv 36 0,mv 37 5,od 38 (.slice 1 (t 36) none (some (t 37)) none),
 od 39 (.append 640 1 15637498705947 (t 35) (t 38)),od 6 (.nO 113 (t 39))]
  (.seq (.drawn [mv 40 6,mv 41 1,op 42 (.buildSlice 688 1 (i0) 1 [(0,(t 41))]) [1],op 43 (.append 113 1 15637498705947 (t 40) (t 42)) [0,2],
 mv 44 0,mv 45 5,op 46 (.slice 1 (t 44) (some (t 45)) none none) [4,5],op 47 (.append 768 1 15637498705947 (t 43) (t 46)) [3,6,3],
 op 4 (.move (t 47)) ([7,7]++rg 8)])
  .ret))))))
def Kr:aZ:=⟨2,48,[],[.tmp 4],Kq,none⟩
abbrev Hk:az:=
  (.seq (sr [mv 26 7,mv 27 0,mv 28 6,od 29 (.indexAddr 4 (t 27) (t 28)),
 fa 30 1 29,ld 31 30,ln 32 31,ls 33 26 32]
  (.cond (t 33)
  .skip
  (.exit 2)))
  (.seq (.block 3 (sr [mv 36 0,mv 37 6,od 38 (.indexAddr 4 (t 36) (t 37)),fa 39 1 38,
 ld 40 39,mv 41 7,od 42 (.indexAddr 3 (t 40) (t 41)),la 43 3 42,
 ca 44 720 198 [(t 43)],od 45 (.un .not (t 44))]
  (.cond (t 45)
  (sr [mc 4 0,od 5 (.move (.const (.bool false)))]
  .ret)
  .skip)))
  (rn [mv 34 7,ad 35 34 1,mv 7 35])))
abbrev Hl:az:=
 (.seq (sr [mv 20 6,mv 21 0,ln 22 21,ls 23 20 22]
 (.cond (t 23)
 .skip
 (.exit 0)))
 (.seq (.block 1 (sr [mc 7 0]
 (.block 2 (.loop Hk))))
 (rn [mv 24 6,ad 25 24 1,mv 6 25])))
abbrev Hm:az:=
  (.seq (sr [mv 52 11,ad 53 52 1,mv 54 0,mv 55 10,
 od 56 (.indexAddr 4 (t 54) (t 55)),fa 57 1 56,ld 58 57,ln 59 58,
 ls 60 53 59]
  (.cond (t 60)
  .skip
  (.exit 6)))
  (.seq (.block 7 (sr [mv 63 0,mv 64 10,od 65 (.indexAddr 4 (t 63) (t 64)),fa 66 1 65,
 ld 67 66,mv 68 11,od 69 (.indexAddr 3 (t 67) (t 68)),la 70 3 69,
 od 12 (.new 208 3 (.const (.agg [i0,i0,i0]))),ow (.store true 3 (t 12) (t 70))]
  (sr [mv 71 0,mv 72 10,od 73 (.indexAddr 4 (t 71) (t 72)),fa 74 1 73,
 ld 75 74,mv 76 11,ad 77 76 1,od 78 (.indexAddr 3 (t 75) (t 77)),
 la 79 3 78,od 13 (.new 224 3 (.const (.agg [i0,i0,i0]))),ow (.store true 3 (t 13) (t 79))]
  (.seq (sr [la 80 3 12,la 81 3 13,la 82 2 3,ca 83 1344 200 [(t 80),(t 81),(t 82)]]
  (.cond (t 83)
  (sr [mc 4 0,od 5 (.move (.const (.bool false)))]
  .ret)
  .skip))
  (sr [la 84 3 12,la 85 3 13,la 86 2 3,ca 87 1408 201 [(t 84),(t 85),(t 86)],
 mv 14 87]
  (.seq (.drawn [la 88 3 12,la 89 3 13,mv 90 0,mv 91 10,
 op 92 (.indexAddr 4 (t 90) (t 91)) [2,3],op 93 (.fieldAddr 3 (t 92)) [4],op 94 (.load false 1 (t 93)) [5],op 95 (.build [i0,i0,i0,i0,i0,i0,i0] [(0,3,(t 88)),(3,3,(t 89)),(6,1,(t 94))]) [0,1,6],
 od 15 (.new 256 7 (.const (.agg [i0,i0,i0,i0,i0,i0,i0]))),⟨none,.store true 7 (t 15) (t 95),none,([8,7]++rg 9)⟩])
  (.seq (sr [mv 96 14,od 97 (.bin .lss (t 96) (ic 0))]
  (.cond (t 97)
  (.drawn [la 98 3 13,la 99 3 12,mv 100 0,mv 101 10,
 op 102 (.indexAddr 4 (t 100) (t 101)) [2,3],op 103 (.fieldAddr 2 (t 102)) [4],op 104 (.load false 1 (t 103)) [5],op 105 (.build [i0,i0,i0,i0,i0,i0,i0] [(0,3,(t 98)),(3,3,(t 99)),(6,1,(t 104))]) [0,1,6],
 ⟨none,.store true 7 (t 15) (t 105),none,([7]++rg 8)⟩])
  .skip))
  (sr [mv 106 14,od 107 (.bin .neq (t 106) (ic 0)),mv 108 107,og 109 (.move (t 8)) 108 true,
 og 110 (.un .not (t 109)) 108 true,og 111 (.move (t 110)) 108 true,og 112 (.load true 7 (t 9)) 111 false,og 113 (.load true 7 (t 15)) 111 false,
 og 114 (.call 1840 false (fc 202) [(t 112),(t 113)]) 111 false,og 115 (.pick (t 111) (.const (.bool true)) (t 114)) 108 true,od 116 (.pick (t 108) (t 115) (.const (.bool false)))]
  (.cond (t 116)
  (sr [od 8 (.move (.const (.bool true)))]
  (rn [la 117 7 15,ow (.store true 7 (t 9) (t 117))]))
  .skip)))))))))
  (rn [mv 61 11,ad 62 61 1,mv 11 62])))
abbrev Hn:az:=
 (.seq (sr [mv 46 10,mv 47 0,ln 48 47,ls 49 46 48]
 (.cond (t 49)
 .skip
 (.exit 4)))
 (.seq (.block 5 (sr [mc 11 0]
 (.block 6 (.loop Hm))))
 (rn [mv 50 10,ad 51 50 1,mv 10 51])))
def KR:az:=
 (sr [od 3 (.new 64 2 (t 1)),mc 4 0,od 5 (.move (.const (.bool false)))]
 (.seq (sr [la 16 2 3,ca 17 288 199 [(t 16)],ca 18 304 198 [(t 17)],od 19 (.un .not (t 18))]
 (.cond (t 19)
 (sr [mc 4 0,od 5 (.move (.const (.bool false)))]
 .ret)
 .skip))
 (.seq (sr [mc 6 0]
 (.block 0 (.loop Hl)))
 (sr [od 8 (.move (.const (.bool false)))]
 (sr [od 9 (.new 160 7 (.const (.agg [i0,i0,i0,i0,i0,i0,i0])))]
 (.seq (sr [mc 10 0]
 (.block 4 (.loop Hn)))
 (sr [fa 118 6 9,ld 119 118,mv 4 119,od 5 (.move (.const (.bool true)))]
 .ret)))))))
def KS:aZ:=⟨2,120,[],[.tmp 4,.tmp 5],KR,none⟩
abbrev Ho:az:=
  (.seq (sr [mv 29 6,mv 30 0,mv 31 4,od 32 (.indexAddr 4 (t 30) (t 31)),
 fa 33 1 32,ld 34 33,ln 35 34,ls 36 29 35]
  (.cond (t 36)
  .skip
  (.exit 2)))
  (.seq (.block 3 (.drawn [fa 39 1 5,op 40 (.load false 1 (t 39)) [0],mv 41 0,mv 42 4,
 op 43 (.indexAddr 4 (t 41) (t 42)) [2,3],op 44 (.fieldAddr 1 (t 43)) [4],op 45 (.load false 1 (t 44)) [5],mv 46 6,
 op 47 (.indexAddr 2 (t 45) (t 46)) [6,7],op 48 (.load true 2 (t 47)) [8],op 49 (.call 800 false (fc 199) [(t 48)]) [9],op 50 (.buildSlice 816 3 (.agg [i0,i0,i0]) 1 [(0,(t 49))]) [10],
 op 51 (.append 99 3 5629499534013 (t 40) (t 50)) [1,11,10],op 52 (.fieldAddr 1 (t 5)) (rg 13),⟨none,.store false 1 (t 52) (t 51),none,([13,12,12]++rg 13)⟩]))
  (rn [mv 37 6,ad 38 37 1,mv 6 38])))
abbrev Hp:az:=
  (.seq (sr [mv 7 4,mv 8 0,ln 9 8,ls 10 7 9]
  (.cond (t 10)
  .skip
  (.exit 0)))
  (.seq (.block 1 (.seq (.drawn [mv 13 0,mv 14 4,op 15 (.indexAddr 4 (t 13) (t 14)) [0,1],op 16 (.fieldAddr 0 (t 15)) [2],
 op 17 (.load false 1 (t 16)) [3],mv 18 0,mv 19 4,op 20 (.indexAddr 4 (t 18) (t 19)) [5,6],
 op 21 (.fieldAddr 2 (t 20)) [7],op 22 (.load false 1 (t 21)) [8],mv 23 0,mv 24 4,
 op 25 (.indexAddr 4 (t 23) (t 24)) [10,11],op 26 (.fieldAddr 3 (t 25)) [12],op 27 (.load false 1 (t 26)) [13],op 28 (.build [i0,.nils,i0,i0] [(0,1,(t 17)),(2,1,(t 22)),(3,1,(t 27))]) [4,9,14],
 od 5 (.new 96 4 (.const (.agg [i0,.nils,i0,i0]))),⟨none,.store true 4 (t 5) (t 28),none,([16,15]++rg 17)⟩])
  (.seq (sr [mc 6 0]
  (.block 2 (.loop Ho)))
  (rn [mv 53 3,la 54 4 5,od 55 (.buildSlice 896 4 (.agg [i0,.nils,i0,i0]) 1 [(0,(t 54))]),od 56 (.append 65 4 2872193639704 (t 53) (t 55)),
 od 3 (.nO 65 (t 56))]))))
  (rn [mv 11 4,ad 12 11 1,mv 4 12])))
def KT:az:=
 (sr [od 2 (.cU 49 4)]
 (sr [od 3 (.cU 65 4)]
 (.seq (sr [mc 4 0]
 (.block 0 (.loop Hp)))
 (sr [mv 57 3,mv 2 57]
 .ret))))
def KU:aZ:=⟨1,58,[],[.tmp 2],KT,none⟩
def Ks:az:=
 (sr [od 2 (.move (.const (.lit 1 [])))]
 (sr [mv 3 0,ca 4 80 132 [(t 3)]]
 (sr [mv 5 0,ca 6 112 133 [(t 5)],mv 2 6]
 .ret)))
def Kt:aZ:=⟨1,7,[some 1],[.tmp 2],Ks,none⟩
def NP:az:=
 (sr [od 2 (.move (.const (.float 0)))]
 (sr [mv 3 0,ca 4 80 52 [(t 3)],mv 2 4]
 .ret))
def f41:aZ:=⟨1,5,[],[.tmp 2],NP,none⟩
def KV:az:=
  (sr [od 1 (.new 32 3 (t 0)),od 2 (.move (.const (.bool false)))]
  (sr [fa 3 2 1,ld 4 3,od 5 (.bin .geq (t 4) (ic 1)),mv 6 5,
 og 7 (.fieldAddr 2 (t 1)) 6 true,og 8 (.load false 1 (t 7)) 6 true,og 9 (.bin .leq (t 8) (ic 4194304)) 6 true,od 10 (.pick (t 6) (t 9) (.const (.bool false))),
 mv 11 10,og 12 (.fieldAddr 0 (t 1)) 11 true,og 13 (.load false 1 (t 12)) 11 true,og 14 (.bin .geq (t 13) (ic (-137438953472))) 11 true,
 od 15 (.pick (t 11) (t 14) (.const (.bool false))),mv 16 15,og 17 (.fieldAddr 0 (t 1)) 16 true,og 18 (.load false 1 (t 17)) 16 true,
 og 19 (.bin .leq (t 18) (ic 137438953472)) 16 true,od 20 (.pick (t 16) (t 19) (.const (.bool false))),mv 21 20,og 22 (.fieldAddr 1 (t 1)) 21 true,
 og 23 (.load false 1 (t 22)) 21 true,og 24 (.bin .geq (t 23) (ic (-137438953472))) 21 true,od 25 (.pick (t 21) (t 24) (.const (.bool false))),mv 26 25,
 og 27 (.fieldAddr 1 (t 1)) 26 true,og 28 (.load false 1 (t 27)) 26 true,og 29 (.bin .leq (t 28) (ic 137438953472)) 26 true,od 30 (.pick (t 26) (t 29) (.const (.bool false))),
 mv 2 30]
  .ret))
def KW:aZ:=⟨1,31,[],[.tmp 2],KV,none⟩
def KX:az:=
  (sr [od 1 (.new 32 2 (t 0)),od 2 (.new 48 3 (.const (.agg [i0,i0,i0])))]
  (sr [fa 3 0 1,ld 4 3,fa 5 1 1,ld 6 5,
 od 7 (.build [i0,i0,i0] [(0,1,(t 4)),(1,1,(t 6)),(2,1,(ic 1))]),ow (.store true 3 (t 2) (t 7))]
  .ret))
def KY:aZ:=⟨1,8,[],[.cell 2 true 3],KX,none⟩
def KZ:az:=
  (sr [od 3 (.new 64 3 (t 0)),od 4 (.new 80 3 (t 1)),od 5 (.new 96 2 (t 2)),od 6 (.move (.const (.bool false)))]
  (.seq (.seq (.drawn [la 9 3 3,la 10 3 4,la 11 2 5,op 12 (.call 208 false (fc 199) [(t 11)]) [2],
 op 13 (.call 224 false (fc 235) [(t 9),(t 10),(t 12)]) [0,1,3,3],op 14 (.bin .neq (t 13) (ic 0)) [4]])
  (.cond (t 14)
  (sr [od 6 (.move (.const (.bool false)))]
  .ret)
  .skip))
  (sr [fa 15 0 5,ld 16 15,fa 17 0 3,ld 18 17,
 fa 19 2 3,ld 20 19,od 21 (.build [i0,i0] [(0,1,(t 18)),(1,1,(t 20))]),fa 22 0 4,
 ld 23 22,fa 24 2 4,ld 25 24,od 26 (.build [i0,i0] [(0,1,(t 23)),(1,1,(t 25))]),
 ca 27 448 236 [(t 16),(t 21),(t 26)],mv 7 27]
  (sr [fa 28 1 5,ld 29 28,fa 30 1 3,ld 31 30,
 fa 32 2 3,ld 33 32,od 34 (.build [i0,i0] [(0,1,(t 31)),(1,1,(t 33))]),fa 35 1 4,
 ld 36 35,fa 37 2 4,ld 38 37,od 39 (.build [i0,i0] [(0,1,(t 36)),(1,1,(t 38))]),
 ca 40 656 236 [(t 29),(t 34),(t 39)],mv 8 40]
  (sr [mv 41 7,eq 42 41 0,mv 43 42,og 44 (.move (t 8)) 43 true,
 og 45 (.bin .eql (t 44) (ic 0)) 43 true,od 46 (.pick (t 43) (t 45) (.const (.bool false))),mv 6 46]
  .ret)))))
def K0:aZ:=⟨3,47,[],[.tmp 6],KZ,none⟩
def K1:az:=
  (sr [od 3 (.new 64 3 (t 0)),od 4 (.new 80 3 (t 1)),od 5 (.new 96 2 (t 2)),mc 6 0]
  (.seq (sr [fa 10 2 3,ld 11 10,od 12 (.bin .lss (t 11) (ic 1)),mv 13 12,
 og 14 (.fieldAddr 2 (t 4)) 13 false,og 15 (.load false 1 (t 14)) 13 false,og 16 (.bin .lss (t 15) (ic 1)) 13 false,od 17 (.pick (t 13) (.const (.bool true)) (t 16))]
  (.cond (t 17)
  (sr [mc 6 0]
  .ret)
  .skip))
  (sr [la 18 2 5,ca 19 320 199 [(t 18)],od 7 (.new 128 3 (.const (.agg [i0,i0,i0]))),ow (.store true 3 (t 7) (t 19))]
  (sr [la 20 3 3,la 21 2 5,ca 22 368 237 [(t 20),(t 21)],mv 8 22]
  (sr [la 23 3 4,la 24 2 5,ca 25 416 237 [(t 23),(t 24)],mv 9 25]
  (.seq (sr [mv 26 8,od 27 (.un .not (t 26)),mv 28 27,og 29 (.move (t 9)) 28 true,
 od 30 (.pick (t 28) (t 29) (.const (.bool false))),mv 31 30,og 32 (.load true 3 (t 3)) 31 true,og 33 (.load true 3 (t 4)) 31 true,
 og 34 (.load true 3 (t 7)) 31 true,og 35 (.call 576 false (fc 235) [(t 32),(t 33),(t 34)]) 31 true,og 36 (.bin .lss (t 35) (ic 0)) 31 true,od 37 (.pick (t 31) (t 36) (.const (.bool false)))]
  (.cond (t 37)
  (sr [mc 6 1]
  .ret)
  .skip))
  (.seq (sr [mv 38 8,mv 39 38,og 40 (.move (t 9)) 39 true,og 41 (.un .not (t 40)) 39 true,
 od 42 (.pick (t 39) (t 41) (.const (.bool false))),mv 43 42,og 44 (.load true 3 (t 4)) 43 true,og 45 (.load true 3 (t 3)) 43 true,
 og 46 (.load true 3 (t 7)) 43 true,og 47 (.call 768 false (fc 235) [(t 44),(t 45),(t 46)]) 43 true,og 48 (.bin .lss (t 47) (ic 0)) 43 true,od 49 (.pick (t 43) (t 48) (.const (.bool false)))]
  (.cond (t 49)
  (sr [mc 6 (-1)]
  .ret)
  .skip))
  (sr [mc 6 0]
  .ret))))))))
def K2:aZ:=⟨3,50,[],[.tmp 6],K1,none⟩
def K3:az:=
  (sr [od 2 (.new 48 7 (t 0)),od 3 (.new 64 7 (t 1)),od 4 (.move (.const (.bool false)))]
  (.seq (sr [fa 7 0 3,fa 8 1 7,ld 9 8,fa 10 0 3,
 fa 11 2 10,ld 12 11,od 13 (.build [i0,i0] [(0,1,(t 9)),(1,1,(t 12))]),fa 14 0 2,
 fa 15 1 14,ld 16 15,fa 17 0 2,fa 18 2 17,
 ld 19 18,od 20 (.build [i0,i0] [(0,1,(t 16)),(1,1,(t 19))]),ca 21 352 238 [(t 13),(t 20)],od 22 (.bin .geq (t 21) (ic 0))]
  (.cond (t 22)
  (sr [fa 23 0 2,la 24 3 23,fa 25 3 2,la 26 3 25,
 fa 27 0 3,la 28 3 27,ca 29 480 235 [(t 24),(t 26),(t 28)],mv 5 29]
  (.seq (sr [mv 30 5,eq 31 30 0]
  (.cond (t 31)
  (rn [fa 32 0 2,la 33 3 32,fa 34 3 2,la 35 3 34,
 fa 36 3 3,la 37 3 36,ca 38 624 235 [(t 33),(t 35),(t 37)],mv 5 38])
  .skip))
  (sr [mv 39 5,od 40 (.bin .lss (t 39) (ic 0)),mv 4 40]
  .ret)))
  .skip))
  (sr [fa 41 0 3,la 42 3 41,fa 43 3 3,la 44 3 43,
 fa 45 0 2,la 46 3 45,ca 47 768 235 [(t 42),(t 44),(t 46)],mv 6 47]
  (.seq (sr [mv 48 6,eq 49 48 0]
  (.cond (t 49)
  (rn [fa 50 0 3,la 51 3 50,fa 52 3 3,la 53 3 52,
 fa 54 3 2,la 55 3 54,ca 56 912 235 [(t 51),(t 53),(t 55)],mv 6 56])
  .skip))
  (sr [mv 57 6,od 58 (.bin .gtr (t 57) (ic 0)),mv 4 58]
  .ret)))))
def K4:aZ:=⟨2,59,[],[.tmp 4],K3,none⟩
def K5:az:=
  (sr [od 3 (.new 64 3 (t 0)),od 4 (.new 80 3 (t 1)),od 5 (.new 96 3 (t 2)),mc 6 0]
  (.seq (sr [la 11 3 3,ca 12 208 270 [(t 11)],mv 13 12,og 14 (.load true 3 (t 4)) 13 false,
 og 15 (.call 256 false (fc 270) [(t 14)]) 13 false,od 16 (.pick (t 13) (.const (.bool true)) (t 15)),mv 17 16,og 18 (.load true 3 (t 5)) 17 false,
 og 19 (.call 320 false (fc 270) [(t 18)]) 17 false,od 20 (.pick (t 17) (.const (.bool true)) (t 19))]
  (.cond (t 20)
  (sr [mc 6 0]
  .ret)
  .skip))
  (sr [fa 21 0 4,ld 22 21,fa 23 2 3,ld 24 23,
 od 25 (.bin .mul (t 22) (t 24)),fa 26 0 3,ld 27 26,fa 28 2 4,
 ld 29 28,od 30 (.bin .mul (t 27) (t 29)),od 31 (.bin .sub (t 25) (t 30)),mv 7 31]
  (sr [fa 32 1 4,ld 33 32,fa 34 2 3,ld 35 34,
 od 36 (.bin .mul (t 33) (t 35)),fa 37 1 3,ld 38 37,fa 39 2 4,
 ld 40 39,od 41 (.bin .mul (t 38) (t 40)),od 42 (.bin .sub (t 36) (t 41)),mv 8 42]
  (sr [fa 43 0 5,ld 44 43,fa 45 2 3,ld 46 45,
 od 47 (.bin .mul (t 44) (t 46)),fa 48 0 3,ld 49 48,fa 50 2 5,
 ld 51 50,od 52 (.bin .mul (t 49) (t 51)),od 53 (.bin .sub (t 47) (t 52)),mv 9 53]
  (sr [fa 54 1 5,ld 55 54,fa 56 2 3,ld 57 56,
 od 58 (.bin .mul (t 55) (t 57)),fa 59 1 3,ld 60 59,fa 61 2 5,
 ld 62 61,od 63 (.bin .mul (t 60) (t 62)),od 64 (.bin .sub (t 58) (t 63)),mv 10 64]
  (sr [mv 65 7,mv 66 10,mv 67 8,mv 68 9,
 ca 69 1120 271 [(t 65),(t 66),(t 67),(t 68)],mv 6 69]
  .ret)))))))
def K6:aZ:=⟨3,70,[],[.tmp 6],K5,none⟩
def K7:az:=
  (sr [od 4 (.new 80 2 (t 1)),od 5 (.new 96 2 (t 2)),mc 6 0]
  (sr [mv 9 0,od 10 (.build [i0,i0] [(0,1,(t 9)),(1,1,(ic 1))]),la 11 2 4,ca 12 208 238 [(t 10),(t 11)],
 mv 7 12]
  (sr [mv 13 0,od 14 (.build [i0,i0] [(0,1,(t 13)),(1,1,(ic 1))]),la 15 2 5,ca 16 272 238 [(t 14),(t 15)],
 mv 8 16]
  (.seq (sr [mv 17 7,mv 18 8,od 19 (.bin .eql (t 17) (t 18))]
  (.cond (t 19)
  (sr [mv 20 7,mv 6 20]
  .ret)
  .skip))
  (sr [mc 6 0]
  .ret)))))
def K8:aZ:=⟨3,21,[],[.tmp 6],K7,none⟩
def K9:az:=
  (sr [od 2 (.new 48 3 (t 0)),od 3 (.new 64 2 (t 1)),od 4 (.move (.const (.bool false)))]
  (sr [fa 5 1 2,ld 6 5,fa 7 2 2,ld 8 7,
 od 9 (.build [i0,i0] [(0,1,(t 6)),(1,1,(t 8))]),fa 10 1 3,ld 11 10,od 12 (.build [i0,i0] [(0,1,(t 11)),(1,1,(ic 1))]),
 ca 13 224 238 [(t 9),(t 12)],od 14 (.bin .gtr (t 13) (ic 0)),mv 4 14]
  .ret))
def La:aZ:=⟨2,15,[],[.tmp 4],K9,none⟩
def Lb:az:=
  (sr [od 2 (.new 48 2 (t 0)),od 3 (.new 64 2 (t 1)),mc 4 0]
  (.seq (sr [fa 5 1 2,ld 6 5,od 7 (.bin .lss (t 6) (ic 1)),mv 8 7,
 og 9 (.fieldAddr 1 (t 3)) 8 false,og 10 (.load false 1 (t 9)) 8 false,og 11 (.bin .lss (t 10) (ic 1)) 8 false,od 12 (.pick (t 8) (.const (.bool true)) (t 11))]
  (.cond (t 12)
  (sr [mc 4 0]
  .ret)
  .skip))
  (sr [fa 13 0 2,ld 14 13,fa 15 1 3,ld 16 15,
 fa 17 0 3,ld 18 17,fa 19 1 2,ld 20 19,
 ca 21 352 271 [(t 14),(t 16),(t 18),(t 20)],mv 4 21]
  .ret)))
def Lc:aZ:=⟨2,22,[],[.tmp 4],Lb,none⟩
def Ld:az:=
  (sr [od 1 (.new 32 3 (t 0)),od 2 (.move (.const (.bool false)))]
  (sr [fa 3 2 1,ld 4 3,ca 5 96 282 [(t 4),(ic 1),(ic 4194304)],od 6 (.un .not (t 5)),
 mv 7 6,og 8 (.fieldAddr 0 (t 1)) 7 false,og 9 (.load false 1 (t 8)) 7 false,og 10 (.call 176 false (fc 282) [(t 9),(ic (-137438953472)),(ic 137438953472)]) 7 false,
 og 11 (.un .not (t 10)) 7 false,od 12 (.pick (t 7) (.const (.bool true)) (t 11)),mv 13 12,og 14 (.fieldAddr 1 (t 1)) 13 false,
 og 15 (.load false 1 (t 14)) 13 false,og 16 (.call 272 false (fc 282) [(t 15),(ic (-137438953472)),(ic 137438953472)]) 13 false,og 17 (.un .not (t 16)) 13 false,od 18 (.pick (t 13) (.const (.bool true)) (t 17)),
 mv 2 18]
  .ret))
def Lf:aZ:=⟨1,19,[],[.tmp 2],Ld,none⟩
abbrev Hq:az:=
  (.seq (sr [mv 41 13,od 42 (.bin .lss (t 41) (ic 2))]
  (.cond (t 42)
  .skip
  (.exit 0)))
  (.seq (.block 1 (.seq (.seq (.drawn [mv 45 13,op 46 (.bE 2 1 (t 11) (t 45)) [0],op 47 (.load false 1 (t 46)) [1],mv 48 13,
 op 49 (.bE 2 1 (t 12) (t 48)) [3],op 50 (.load false 1 (t 49)) [4],op 51 (.bin .gtr (t 47) (t 50)) [2,5]])
  (.cond (t 51)
  (sr [mv 52 9,mv 8 52]
  .ret)
  .skip))
  (.seq (.drawn [mv 53 13,op 54 (.bE 2 1 (t 11) (t 53)) [0],op 55 (.load false 1 (t 54)) [1],mv 56 13,
 op 57 (.bE 2 1 (t 12) (t 56)) [3],op 58 (.load false 1 (t 57)) [4],op 59 (.bin .lss (t 55) (t 58)) [2,5]])
  (.cond (t 59)
  (sr [mv 60 9,od 61 (.un .neg (t 60)),mv 8 61]
  .ret)
  .skip))))
  (rn [mv 43 13,ad 44 43 1,mv 13 44])))
def Lg:az:=
  (sr [mc 8 0]
  (sr [mv 14 0,ca 15 256 283 [(t 14)],mv 16 1,ca 17 288 283 [(t 16)],
 od 18 (.bin .mul (t 15) (t 17)),mv 9 18]
  (sr [mv 19 2,ca 20 336 283 [(t 19)],mv 21 3,ca 22 368 283 [(t 21)],
 od 23 (.bin .mul (t 20) (t 22)),mv 10 23]
  (.seq (sr [mv 24 9,mv 25 10,od 26 (.bin .neq (t 24) (t 25))]
  (.cond (t 26)
  (sr [mv 27 9,mv 28 10,od 29 (.bin .sub (t 27) (t 28)),ca 30 496 283 [(t 29)],
 mv 8 30]
  .ret)
  .skip))
  (sr [mv 31 0,ca 32 528 285 [(t 31)],mv 33 1,ca 34 560 285 [(t 33)],
 ca 35 576 284 [(t 32),(t 34)],od 11 (.new 192 2 (.const (.agg [.int .u64 0,.int .u64 0]))),ow (.store true 2 (t 11) (t 35))]
  (sr [mv 36 2,ca 37 608 285 [(t 36)],mv 38 3,ca 39 640 285 [(t 38)],
 ca 40 656 284 [(t 37),(t 39)],od 12 (.new 208 2 (.const (.agg [.int .u64 0,.int .u64 0]))),ow (.store true 2 (t 12) (t 40))]
  (.seq (sr [mc 13 0]
  (.block 0 (.loop Hq)))
  (sr [mc 8 0]
  .ret))))))))
def Lh:aZ:=⟨4,62,[],[.tmp 8],Lg,none⟩
def Li:az:=
  (sr [od 6 (.move (.const (.bool false)))]
  (sr [mv 7 1,mv 8 0,od 9 (.bin .leq (t 7) (t 8)),mv 10 9,
 og 11 (.move (t 0)) 10 true,og 12 (.move (t 2)) 10 true,og 13 (.bin .leq (t 11) (t 12)) 10 true,od 14 (.pick (t 10) (t 13) (.const (.bool false))),
 mv 6 14]
  .ret))
def Lj:aZ:=⟨3,15,[],[.tmp 6],Li,none⟩
def Lk:az:=
 (sr [mc 2 0]
 (.seq (sr [mv 3 0,od 4 (.bin .gtr (t 3) (ic 0))]
 (.cond (t 4)
 (sr [mc 2 1]
 .ret)
 .skip))
 (.seq (sr [mv 5 0,od 6 (.bin .lss (t 5) (ic 0))]
 (.cond (t 6)
 (sr [mc 2 (-1)]
 .ret)
 .skip))
 (sr [mc 2 0]
 .ret))))
def Ll:aZ:=⟨1,7,[],[.tmp 2],Lk,none⟩
def Lm:az:=
  (sr [od 4 (.new 80 2 (.const (.agg [.int .u64 0,.int .u64 0])))]
  (sr [od 5 (.move (.const (.int .u64 4294967295)))]
  (sr [mv 12 0,od 13 (.bin .shr (t 12) (.const (.int .u64 32))),mv 6 13]
  (sr [mv 14 0,mv 15 5,od 16 (.bin .and (t 14) (t 15)),mv 7 16]
  (sr [mv 17 1,od 18 (.bin .shr (t 17) (.const (.int .u64 32))),mv 8 18]
  (sr [mv 19 1,mv 20 5,od 21 (.bin .and (t 19) (t 20)),mv 9 21]
  (sr [mv 22 6,mv 23 9,od 24 (.bin .mul (t 22) (t 23)),mv 25 7,
 mv 26 9,od 27 (.bin .mul (t 25) (t 26)),od 28 (.bin .shr (t 27) (.const (.int .u64 32))),od 29 (.bin .add (t 24) (t 28)),
 mv 10 29]
  (sr [mv 30 7,mv 31 8,od 32 (.bin .mul (t 30) (t 31)),mv 33 10,
 mv 34 5,od 35 (.bin .and (t 33) (t 34)),od 36 (.bin .add (t 32) (t 35)),mv 11 36]
  (sr [mv 37 6,mv 38 8,od 39 (.bin .mul (t 37) (t 38)),mv 40 10,
 od 41 (.bin .shr (t 40) (.const (.int .u64 32))),od 42 (.bin .add (t 39) (t 41)),mv 43 11,od 44 (.bin .shr (t 43) (.const (.int .u64 32))),
 od 45 (.bin .add (t 42) (t 44)),mv 46 0,mv 47 1,od 48 (.bin .mul (t 46) (t 47)),
 od 49 (.build [.int .u64 0,.int .u64 0] [(0,1,(t 45)),(1,1,(t 48))]),ow (.store true 2 (t 4) (t 49))]
  .ret)))))))))
def Ln:aZ:=⟨2,50,[],[.cell 4 true 2],Lm,none⟩
def Lo:az:=
 (sr [od 2 (.move (.const (.int .u64 0)))]
 (.seq (sr [mv 3 0,od 4 (.bin .lss (t 3) (ic 0))]
 (.cond (t 4)
 (sr [mv 5 0,od 6 (.j7 .u64 (t 5)),od 7 (.un .neg (t 6)),mv 2 7]
 .ret)
 .skip))
 (sr [mv 8 0,od 9 (.j7 .u64 (t 8)),mv 2 9]
 .ret)))
def Lp:aZ:=⟨1,10,[],[.tmp 2],Lo,none⟩
def EM:List (Nat×aZ):=[(517,abp),(483,Nm),(77,f77),(96,f96),(92,f92),(491,Nr),(492,Ns),(499,Nu),(487,Nq),(485,JF),(89,f89),(83,f83),(84,f84),(85,f85),(86,f86),(87,f87),(132,abU),(133,abq),(130,abr),(500,J8),(505,NF),(506,NG),(501,Ka),(507,NH),(496,Nt),(508,NI),(512,NN),(502,Kc),(17,f17),(125,abV),(126,abW),(113,f113),(114,f114),(115,f115),(116,abt),(117,abu),(118,abv),(93,f93),(119,abw),(120,abx),(121,aby),(122,abz),(280,NO),(495,JS),(182,NJ),(37,f37),(27,f27),(38,f38),(165,KN),(131,abA),(161,KQ),(162,Kr),(163,KS),(164,KU),(510,Kt),(41,f41),(198,KW),(199,KY),(200,K0),(201,K2),(202,K4),(235,K6),(236,K8),(237,La),(238,Lc),(270,Lf),(271,Lh),(282,Lj),(283,Ll),(284,Ln),(285,Lp)]
def EN:List (Nat× (List V→Option fK)):=[(149,lr 1 15637498705947),(31,lr 7 1927910799188),(32,lr 2 8278675785407),(52,Em),(132,xU)]
def BB:List (Nat× (List V→Option (List (List V)))):=[(221,Bu)]
def E:Env:=MD EM EN [] BB
theorem abX:E.fn 517=some abp:=rfl
theorem abY (as:List V):E.ext 517 as=none:=rfl
theorem SE:E.fn 77=some f77:=rfl
theorem SF (as:List V):E.ext 77 as=none:=rfl
theorem acz:E.fn 96=some f96:=rfl
theorem acA (as:List V):E.ext 96 as=none:=rfl
theorem SO:E.fn 92=some f92:=rfl
theorem SP (as:List V):E.ext 92 as=none:=rfl
theorem abZ:E.fn 491=some Nr:=rfl
theorem ab0 (as:List V):E.ext 491 as=none:=rfl
theorem abf:E.fn 492=some Ns:=rfl
theorem abg (as:List V):E.ext 492 as=none:=rfl
theorem SI:E.fn 83=some f83:=rfl
theorem SJ (as:List V):E.ext 83 as=none:=rfl
theorem NW:E.fn 84=some f84:=rfl
theorem NX (as:List V):E.ext 84 as=none:=rfl
theorem SA:E.fn 85=some f85:=rfl
theorem SB (as:List V):E.ext 85 as=none:=rfl
theorem SK:E.fn 86=some f86:=rfl
theorem SL (as:List V):E.ext 86 as=none:=rfl
theorem SM:E.fn 87=some f87:=rfl
theorem SN (as:List V):E.ext 87 as=none:=rfl
theorem N6 (as:List V):E.ext 132 as=xU as:=rfl
theorem N9:E.fn 133=some abq:=rfl
theorem Oa (as:List V):E.ext 133 as=none:=rfl
theorem OC:E.fn 130=some abr:=rfl
theorem OD (as:List V):E.ext 130 as=none:=rfl
theorem Iy:E.fn 500=some J8:=rfl
theorem Iz (as:List V):E.ext 500 as=none:=rfl
theorem ab1:E.fn 505=some NF:=rfl
theorem ab2 (as:List V):E.ext 505 as=none:=rfl
theorem abh:E.fn 506=some NG:=rfl
theorem abi (as:List V):E.ext 506 as=none:=rfl
theorem fB:E.fn 501=some Ka:=rfl
theorem fC (as:List V):E.ext 501 as=none:=rfl
theorem abj:E.fn 507=some NH:=rfl
theorem abk (as:List V):E.ext 507 as=none:=rfl
theorem ab3:E.fn 496=some Nt:=rfl
theorem ab4 (as:List V):E.ext 496 as=none:=rfl
theorem ab5:E.fn 508=some NI:=rfl
theorem ab6 (as:List V):E.ext 508 as=none:=rfl
theorem Ob:E.fn 113=some f113:=rfl
theorem Oc (as:List V):E.ext 113 as=none:=rfl
theorem Od:E.fn 114=some f114:=rfl
theorem Oe (as:List V):E.ext 114 as=none:=rfl
theorem Og:E.fn 115=some f115:=rfl
theorem Oi (as:List V):E.ext 115 as=none:=rfl
theorem Oj:E.fn 116=some abt:=rfl
theorem Ol (as:List V):E.ext 116 as=none:=rfl
theorem Om:E.fn 117=some abu:=rfl
theorem Oo (as:List V):E.ext 117 as=none:=rfl
theorem Oq:E.fn 118=some abv:=rfl
theorem Ot (as:List V):E.ext 118 as=none:=rfl
theorem Sy:E.fn 93=some f93:=rfl
theorem Sz (as:List V):E.ext 93 as=none:=rfl
theorem Ou:E.fn 119=some abw:=rfl
theorem Ov (as:List V):E.ext 119 as=none:=rfl
theorem Ow:E.fn 120=some abx:=rfl
theorem Ox (as:List V):E.ext 120 as=none:=rfl
theorem Oy:E.fn 121=some aby:=rfl
theorem Oz (as:List V):E.ext 121 as=none:=rfl
theorem OA:E.fn 122=some abz:=rfl
theorem OB (as:List V):E.ext 122 as=none:=rfl
theorem ab7:E.fn 280=some NO:=rfl
theorem ab8 (as:List V):E.ext 280 as=none:=rfl
theorem NU:E.fn 495=some JS:=rfl
theorem NV (as:List V):E.ext 495 as=none:=rfl
theorem ab9:E.fn 182=some NJ:=rfl
theorem aca (as:List V):E.ext 182 as=none:=rfl
theorem acB:E.fn 37=some f37:=rfl
theorem acC (as:List V):E.ext 37 as=none:=rfl
theorem acb:E.fn 27=some f27:=rfl
theorem acd (as:List V):E.ext 27 as=none:=rfl
theorem acD:E.fn 38=some f38:=rfl
theorem acE (as:List V):E.ext 38 as=none:=rfl
theorem IE:E.fn 131=some abA:=rfl
theorem IF (as:List V):E.ext 131 as=none:=rfl
theorem OG:E.fn 161=some KQ:=rfl
theorem OH (as:List V):E.ext 161 as=none:=rfl
theorem IC:E.fn 162=some Kr:=rfl
theorem ID (as:List V):E.ext 162 as=none:=rfl
theorem OI:E.fn 163=some KS:=rfl
theorem OJ (as:List V):E.ext 163 as=none:=rfl
theorem OK:E.fn 164=some KU:=rfl
theorem OL (as:List V):E.ext 164 as=none:=rfl
theorem N7:E.fn 510=some Kt:=rfl
theorem N8 (as:List V):E.ext 510 as=none:=rfl
theorem acF:E.fn 41=some f41:=rfl
theorem acG (as:List V):E.ext 41 as=none:=rfl
theorem OM:E.fn 198=some KW:=rfl
theorem ON (as:List V):E.ext 198 as=none:=rfl
theorem OO:E.fn 199=some KY:=rfl
theorem OP (as:List V):E.ext 199 as=none:=rfl
theorem OQ:E.fn 200=some K0:=rfl
theorem OR (as:List V):E.ext 200 as=none:=rfl
theorem OS:E.fn 201=some K2:=rfl
theorem OT (as:List V):E.ext 201 as=none:=rfl
theorem OU:E.fn 202=some K4:=rfl
theorem OV (as:List V):E.ext 202 as=none:=rfl
theorem OW:E.fn 235=some K6:=rfl
theorem OX (as:List V):E.ext 235 as=none:=rfl
theorem OY:E.fn 236=some K8:=rfl
theorem OZ (as:List V):E.ext 236 as=none:=rfl
theorem O3:E.fn 237=some La:=rfl
theorem O4 (as:List V):E.ext 237 as=none:=rfl
theorem O5:E.fn 238=some Lc:=rfl
theorem O6 (as:List V):E.ext 238 as=none:=rfl
theorem O7:E.fn 270=some Lf:=rfl
theorem O8 (as:List V):E.ext 270 as=none:=rfl
theorem O9:E.fn 271=some Lh:=rfl
theorem Pa (as:List V):E.ext 271 as=none:=rfl
theorem Pb:E.fn 282=some Lj:=rfl
theorem Pc (as:List V):E.ext 282 as=none:=rfl
theorem Pd:E.fn 283=some Ll:=rfl
theorem Pe (as:List V):E.ext 283 as=none:=rfl
theorem Pf:E.fn 284=some Ln:=rfl
theorem Pg (as:List V):E.ext 284 as=none:=rfl
theorem Ph:E.fn 285=some Lp:=rfl
theorem Pj (as:List V):E.ext 285 as=none:=rfl
theorem ace (as:List V):E.ext 149 as=lr 1 15637498705947 as:=rfl
theorem acH (as:List V):E.ext 52 as=Em as:=rfl
end Go.AM
