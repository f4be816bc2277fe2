/-
  Texts of the proof, joined by program: AmFns. Own work.
-/
import Derived.Test.YtgkdgapmmkkcaaaGreatBase
set_option linter.unusedSimpArgs false
set_option linter.unusedVariables false
namespace Go.AM
namespace Fx
abbrev t (n:Nat):aP:= .tmp n
abbrev i0:V:= .int .i64 0
abbrev zE:V:= .agg [i0,i0,i0,i0,.bool false,.str [],.lit 7 []]
abbrev mv (d n:Nat):bq:=od d (.move (t n))
abbrev mc (d:Nat) (n:Int):bq:=od d (.move (ic n))
abbrev ld (d n:Nat):bq:=od d (.load false 1 (t n))
abbrev la (d k n:Nat):bq:=od d (.load true k (t n))
abbrev fa (d k n:Nat):bq:=od d (.fieldAddr k (t n))
abbrev eq (d n:Nat) (k:Int):bq:=od d (.bin .eql (t n) (ic k))
abbrev ad (d n:Nat) (k:Int):bq:=od d (.bin .add (t n) (ic k))
abbrev ls (d n m:Nat):bq:=od d (.bin .lss (t n) (t m))
abbrev xt (d n k:Nat):bq:=od d (.extract (t n) k)
abbrev ln (d n:Nat):bq:=od d (.len (t n))
abbrev ca (d r f:Nat) (as:List aP):bq:=od d (.call r false (fc f) as)
abbrev og (d:Nat) (x:pP) (g:Nat) (b:Bool):bq:=⟨some d,x,some (g,b),[]⟩
abbrev rn (l:List bq):al:= .region l
abbrev sr (l:List bq) (x:al):al:= .seq (.region l) x
end Fx
open Fx
abbrev zD:al:=
  (sr [ls 49 48 47]
  (.seq (.cond (t 49)
  .skip
  (.exit 0))
  (.seq (.block 1 (sr [od 50 (.indexAddr 4 (t 46) (t 48)),la 51 4 50,od 11 (.new 192 4 (.const (.agg [.lit 4 [],.lit 5 [],.lit 8 [],.lit 7 []]))),ow (.store true 4 (t 11) (t 51))]
  (.seq (.drawn [la 52 4 11,la 53 7 9,op 54 (.call 880 false (fc 447) [(t 52),(t 53)]) [0,1],la 55 4 11,
 la 56 7 9,op 57 (.call 928 false (fc 448) [(t 55),(t 56)]) [3,4,2],op 58 (.call 944 false (fc 446) [(t 54),(t 57)]) [2,5,5],op 59 (.un .not (t 58)) [6],
 op 60 (.move (t 59)) [7,6],⟨some 61,.load true 4 (t 11),some (60,false),[8]⟩,⟨some 62,.load true 7 (t 5),some (60,false),[8]⟩,⟨some 63,.call 1024 false (fc 447) [(t 61),(t 62)],some (60,false),[9,10,8,8]⟩,
 ⟨some 64,.load true 4 (t 11),some (60,false),[8]⟩,⟨some 65,.load true 7 (t 5),some (60,false),[8]⟩,⟨some 66,.call 1072 false (fc 448) [(t 64),(t 65)],some (60,false),[12,13,11,8]⟩,⟨some 67,.call 1088 false (fc 446) [(t 63),(t 66)],some (60,false),[11,14,14,8]⟩,
 ⟨some 68,.un .not (t 67),some (60,false),[15,8]⟩,op 69 (.pick (t 60) (.const (.bool true)) (t 68)) [8,16]])
  (.cond (t 69)
  (sr [od 6 (.move (.const (.bool false)))]
  .ret)
  .skip))))
  (rn [ad 70 48 1,mv 48 70]))))
def Hq:al:=
  (sr [od 4 (.new 80 3 (t 1)),od 5 (.new 96 7 (t 2)),od 6 (.move (.const (.bool false)))]
  (sr [ca 12 208 311 [],mv 7 12]
  (sr [mv 13 0,mv 14 0,ln 15 14,od 16 (.min [(t 15),(ic 8)]),
 od 17 (.slice 1 (t 13) none (some (t 16)) none),ca 18 304 77 [(t 17)],od 8 (.new 144 4 (.const (.agg [.lit 4 [],.lit 5 [],.lit 8 [],.lit 7 []]))),ow (.store true 4 (t 8) (t 18))]
  (sr [fa 19 0 5,fa 20 0 19,ld 21 20,od 22 (.bin .rem (t 21) (ic 100)),
 fa 23 0 5,fa 24 1 23,ld 25 24,od 26 (.bin .rem (t 25) (ic 100)),
 od 27 (.build [i0,i0] [(0,1,(t 22)),(1,1,(t 26))]),fa 28 2 5,fa 29 0 28,ld 30 29,
 od 31 (.bin .rem (t 30) (ic 700)),fa 32 2 5,fa 33 1 32,ld 34 33,
 od 35 (.bin .rem (t 34) (ic 700)),od 36 (.build [i0,i0] [(0,1,(t 31)),(1,1,(t 35))]),fa 37 6 5,ld 38 37,
 od 39 (.bin .and (t 38) (ic 15)),od 40 (.build [i0,i0,i0,i0,i0,i0,i0] [(0,2,(t 27)),(2,2,(t 36)),(4,1,(ic 8)),(5,1,(ic 8)),(6,1,(t 39))]),od 9 (.new 160 7 (.const (.agg [i0,i0,i0,i0,i0,i0,i0]))),ow (.store true 7 (t 9) (t 40))]
  (.seq (.seq (.drawn [la 41 4 8,la 42 4 8,la 43 3 4,op 44 (.call 720 false (fc 79) [(t 42),(t 43)]) [1,2],
 od 45 (.build [.lit 4 [],.lit 5 [],.lit 8 [],.lit 7 []] []),op 46 (.buildSlice 752 4 (.agg [.nils,.nils,.nils,.nils]) 3 [(0,(t 41)),(1,(t 44)),(2,(t 45))]) [0,3,4],op 47 (.len (t 46)) [5],mc 48 0])
  (.block 0 (.loop zD)))
  (sr [mv 71 7,mv 6 71]
  .ret))))))
def Hr:aB:=⟨3,72,[],[.tmp 6],Hq,none⟩
def Hs:al:=
  (sr [od 0 (.move (.const (.bool false)))]
  (sr [ca 4 80 331 [(.const (.str [119,101,105,103,104,116,32,43,32,51])),(.const (.str [119,101,105,103,104,116,32,43,32,51])),(ic 8),(ic 12)],mv 5 4,og 6 (.call 112 false (fc 331) [(.const (.str [119,101,105,103,104,116,32,60,32,49,48])),(.const (.str [116,114,117,101])),(ic 1),(ic 1)]) 5 true,od 7 (.pick (t 5) (t 6) (.const (.bool false))),
 mv 8 7,og 9 (.call 160 false (fc 331) [(.const (.str [40,99,108,97,115,115,32,61,32,34,114,111,97,100,34,41,32,111,114,32,40,115,99,97,108,101,32,60,32,57,41])),(.const (.str [115,99,97,108,101,32,60,32,57])),(ic 0),(ic 1)]) 8 true,od 10 (.pick (t 8) (t 9) (.const (.bool false))),mv 1 10]
  (sr [ca 11 192 331 [(.const (.str [105,102,32,115,116,97,105,114,115,32,116,104,101,110,32,49,32,101,108,115,101,32,40,119,101,105,103,104,116,32,42,32,45,50,41])),(.const (.str [119,101,105,103,104,116,32,42,32,45,50])),(ic (-18)),(ic (-10))],mv 12 11,og 13 (.call 224 false (fc 331) [(.const (.str [99,108,97,115,115,32,61,32,34,116,114,101,101,34])),(.const (.str [99,108,97,115,115,32,61,32,34,116,114,101,101,34])),(ic 0),(ic 1)]) 12 true,od 14 (.pick (t 12) (t 13) (.const (.bool false))),
 mv 15 14,og 16 (.call 272 false (fc 331) [(.const (.str [110,97,109,101])),(.const (.str [110,97,109,101])),(ic 0),(ic (-1))]) 15 true,od 17 (.pick (t 15) (t 16) (.const (.bool false))),mv 2 17]
  (sr [od 18 (.build [i0,i0,i0,.lit 1 []] [(0,1,(ic 4)),(1,1,(ic 5)),(2,1,(ic 9))]),od 19 (.buildSlice 320 4 (.agg [i0,i0,i0,.nils]) 1 [(0,(t 18))]),od 3 (.il 65 (t 19))]
  (sr [mv 20 1,mv 21 20,og 22 (.move (t 2)) 21 true,od 23 (.pick (t 21) (t 22) (.const (.bool false))),
 mv 24 23,og 25 (.build [i0,.str [],.str [],i0,i0,.bool false,i0,i0,i0] [(3,1,(ic 9))]) 24 true,og 26 (.move (t 3)) 24 true,og 27 (.call 448 false (fc 322) [(t 25),(t 26)]) 24 true,
 od 28 (.pick (t 24) (t 27) (.const (.bool false))),mv 29 28,og 30 (.build [i0,.str [],.str [],i0,i0,.bool false,i0,i0,i0] [(3,1,(ic 10))]) 29 true,og 31 (.move (t 3)) 29 true,
 og 32 (.call 528 false (fc 322) [(t 30),(t 31)]) 29 true,og 33 (.un .not (t 32)) 29 true,od 34 (.pick (t 29) (t 33) (.const (.bool false))),mv 0 34]
  .ret)))))
def Ht:aB:=⟨0,35,[],[.tmp 0],Hs,none⟩
abbrev Hu:al:=
  (.seq (sr [mv 22 5,fa 23 1 3,ld 24 23,ln 25 24,
 ls 26 22 25]
  (.cond (t 26)
  .skip
  (.exit 0)))
  (.seq (.block 1 (sr [fa 29 1 3,ld 30 29,mv 31 5,od 32 (.indexAddr 5 (t 30) (t 31)),
 mv 6 32]
  (sr [mv 33 6,od 34 (.buildSlice 560 1 (.str []) 3 [(0,(.const (.str [102,105,101,108,100]))),(1,(.const (.str [119,111,111,100]))),(2,(.const (.str [108,97,107,101])))]),mv 35 4,ca 36 592 85 [(t 35),(ic 3)],
 od 37 (.indexAddr 1 (t 34) (t 36)),ld 38 37,od 39 (.nilCheck (t 33)),fa 40 1 39,
 ow (.store false 1 (t 40) (t 38))]
  (sr [mv 41 6,od 42 (.buildSlice 688 1 (.str []) 6 [(0,(.const (.str []))),(1,(.const (.str []))),(2,(.const (.str []))),(3,(.const (.str [77,111,111,114]))),(4,(.const (.str [72,111,108,109]))),(5,(.const (.str [78,111,114,116,104,32,77,111,111,114])))]),mv 43 4,ca 44 720 85 [(t 43),(ic 6)],
 od 45 (.indexAddr 1 (t 42) (t 44)),ld 46 45,od 47 (.nilCheck (t 41)),fa 48 2 47,
 ow (.store false 1 (t 48) (t 46))]
  (sr [mv 49 6,mv 50 4,ca 51 832 85 [(t 50),(ic 60)],od 52 (.bin .add (ic 1) (t 51)),
 od 53 (.nilCheck (t 49)),fa 54 3 53,ow (.store false 1 (t 54) (t 52))]
  (rn [mv 55 6,mv 56 4,ca 57 928 85 [(t 56),(ic 4)],mv 58 4,
 ca 59 960 85 [(t 58),(ic 2)],od 60 (.bin .mul (t 57) (t 59)),od 61 (.bin .rem (t 60) (ic 3)),od 62 (.bin .add (ic 1) (t 61)),
 od 63 (.nilCheck (t 55)),fa 64 4 63,ow (.store false 1 (t 64) (t 62))]))))))
  (rn [mv 27 5,ad 28 27 1,mv 5 28])))
def ML:al:=
  (sr [od 2 (.new 48 4 (.const (.agg [.lit 4 [],.lit 5 [],.lit 8 [],.lit 7 []])))]
  (sr [od 3 (.new 64 4 (.const (.agg [.lit 4 [],.lit 5 [],.lit 8 [],.lit 7 []])))]
  (sr [mv 8 0,mv 9 0,ln 10 9,od 11 (.min [(t 10),(ic 3)]),
 od 12 (.slice 1 (t 8) none (some (t 11)) none),od 13 (.call 224 true (fc 83) [(t 12)]),mv 7 13,xt 14 7 0,
 xt 15 7 1,fa 16 0 3,ow (.store false 1 (t 16) (t 14)),fa 17 1 3,
 ow (.store false 1 (t 17) (t 15))]
  (sr [mv 18 0,ca 19 320 84 [(t 18),(ic 3)],od 20 (.build [.lit 1 [],i0] [(0,1,(t 19))]),od 21 (.new 352 2 (t 20)),
 mv 4 21]
  (.seq (sr [mc 5 0]
  (.block 0 (.loop Hu)))
  (sr [mv 65 0,ca 66 1072 84 [(t 65),(ic 4)],od 67 (.call 1088 true (fc 86) [(t 66)]),fa 68 2 3,
 ow (.store false 1 (t 68) (t 67))]
  (.seq (.drawn [la 69 4 3,mv 70 0,op 71 (.call 1152 false (fc 84) [(t 70),(ic 5)]) [1],op 72 (.call 1168 true (fc 87) [(t 69),(t 71)]) [0,2,2],
 op 73 (.fieldAddr 3 (t 3)) [0,1,2,3],⟨none,.store false 1 (t 73) (t 72),none,[4,3,3,0,1,2,3]⟩])
  (sr [la 74 4 3,ow (.store true 4 (t 2) (t 74))]
  .ret))))))))
def f77:aB:=⟨1,75,[],[.cell 2 true 4],ML,none⟩
abbrev Hv:al:=
  (.seq (sr [mv 354 9,mv 355 6,od 356 (.bin .rem (t 355) (ic 4)),od 357 (.bin .add (ic 79) (t 356)),
 ls 358 354 357]
  (.cond (t 358)
  .skip
  (.exit 1)))
  (.seq (.block 2 (rn [fa 361 3 5,ld 362 361,mv 363 9,od 364 (.bin .add (ic 1000) (t 363)),
 mv 365 9,od 366 (.bin .rem (t 365) (ic 3)),od 367 (.bin .add (ic 90) (t 366)),od 368 (.build [i0,i0] [(0,1,(t 367)),(1,1,(ic 110))]),
 od 369 (.build [i0,i0,i0,.str [],.str [],i0,i0] [(0,1,(t 364)),(1,2,(t 368)),(3,1,(.const (.str [116,114,101,101]))),(5,1,(ic 1)),(6,1,(ic 1))]),od 370 (.buildSlice 5936 7 (.agg [i0,i0,i0,.str [],.str [],i0,i0]) 1 [(0,(t 369))]),od 371 (.append 101 7 1927910799188 (t 362) (t 370)),fa 372 3 5,
 ow (.store false 1 (t 372) (t 371))]))
  (rn [mv 359 9,ad 360 359 1,mv 9 360])))
def MM:al:=
  (sr [od 2 (.new 48 4 (t 0)),od 3 (.new 64 3 (t 1)),od 4 (.new 80 4 (.const (.agg [.lit 4 [],.lit 5 [],.lit 8 [],.lit 7 []])))]
  (sr [la 10 4 2,od 11 (.call 192 true (fc 92) [(t 10)]),od 5 (.new 96 4 (.const (.agg [.lit 4 [],.lit 5 [],.nils,.nils]))),ow (.store true 4 (t 5) (t 11))]
  (sr [od 12 (.aR 3 1 (t 3) (ic 1)),ld 13 12,ca 14 240 93 [(t 13),(ic 60)],mv 6 14]
  (sr [od 15 (.aR 3 1 (t 3) (ic 2)),ld 16 15,ca 17 288 93 [(t 16),(ic 64)],mv 7 17]
  (.seq (sr [od 18 (.aR 3 1 (t 3) (ic 0)),ld 19 18,ca 20 336 93 [(t 19),(ic 17)]]
  (.block 0 (sr [eq 22 20 0,mv 21 22]
  (.cond (t 21)
  (rn [fa 24 0 5,ld 25 24,fa 26 1 5,ld 27 26,
 od 28 (.aR 3 1 (t 3) (ic 1)),ld 29 28,od 30 (.aR 3 1 (t 3) (ic 2)),ld 31 30,
 od 32 (.aR 3 1 (t 3) (ic 1)),ld 33 32,od 34 (.aR 3 1 (t 3) (ic 2)),ld 35 34,
 od 36 (.bin .add (t 33) (t 35)),od 37 (.build [i0,i0,i0] [(0,1,(t 29)),(1,1,(t 31)),(2,1,(t 36))]),od 38 (.call 624 true (fc 94) [(t 25),(t 27),(t 37)]),mv 23 38,
 xt 39 23 0,xt 40 23 1,fa 41 0 5,ow (.store false 1 (t 41) (t 39)),
 fa 42 1 5,ow (.store false 1 (t 42) (t 40))])
  (sr [eq 44 20 1,mv 43 44]
  (.cond (t 43)
  (sr [fa 45 1 5,ld 46 45,ln 47 46,od 48 (.bin .gtr (t 47) (ic 0))]
  (.cond (t 48)
  (.drawn [fa 49 1 5,op 50 (.load false 1 (t 49)) [0],mv 51 7,fa 52 1 5,
 op 53 (.load false 1 (t 52)) [3],op 54 (.len (t 53)) [4],op 55 (.bin .rem (t 51) (t 54)) [2,5],od 56 (.buildSlice 912 1 (.str []) 5 [(0,(.const (.str []))),(1,(.const (.str [70,105,101,108,100]))),(2,(.const (.str [119,111,111,100]))),(3,(.const (.str [97,98,99,100,101,102,103,104,105,106,107,108,109]))),(4,(.const (.str [108,97,107,101])))]),
 mv 57 6,op 58 (.bin .rem (t 57) (ic 5)) [8],op 59 (.indexAddr 1 (t 56) (t 58)) [7,9],op 60 (.load false 1 (t 59)) [10],
 op 61 (.indexAddr 5 (t 50) (t 55)) ([1,6]++rg 12),op 62 (.fieldAddr 1 (t 61)) ([12]++rg 12),⟨none,.store false 1 (t 62) (t 60),none,([13,11]++rg 12)⟩])
  .skip))
  (sr [eq 64 20 2,mv 63 64]
  (.cond (t 63)
  (sr [fa 65 1 5,ld 66 65,ln 67 66,od 68 (.bin .gtr (t 67) (ic 0))]
  (.cond (t 68)
  (.drawn [fa 69 1 5,op 70 (.load false 1 (t 69)) [0],mv 71 7,fa 72 1 5,
 op 73 (.load false 1 (t 72)) [3],op 74 (.len (t 73)) [4],op 75 (.bin .rem (t 71) (t 74)) [2,5],mv 76 6,
 op 77 (.call 1248 false (fc 95) [(t 76)]) [7],op 78 (.indexAddr 5 (t 70) (t 75)) ([1,6]++rg 9),op 79 (.fieldAddr 2 (t 78)) ([9]++rg 9),⟨none,.store false 1 (t 79) (t 77),none,([10,8,8]++rg 9)⟩])
  .skip))
  (sr [eq 81 20 3,mv 80 81]
  (.cond (t 80)
  (sr [fa 82 1 5,ld 83 82,ln 84 83,od 85 (.bin .gtr (t 84) (ic 0))]
  (.cond (t 85)
  (.drawn [fa 86 1 5,op 87 (.load false 1 (t 86)) [0],mv 88 7,fa 89 1 5,
 op 90 (.load false 1 (t 89)) [3],op 91 (.len (t 90)) [4],op 92 (.bin .rem (t 88) (t 91)) [2,5],mv 93 6,
 op 94 (.bin .mul (t 93) (ic 6)) [7],op 95 (.indexAddr 5 (t 87) (t 92)) ([1,6]++rg 9),op 96 (.fieldAddr 3 (t 95)) ([9]++rg 9),⟨none,.store false 1 (t 96) (t 94),none,([10,8]++rg 9)⟩])
  .skip))
  (sr [eq 98 20 4,mv 97 98]
  (.cond (t 97)
  (sr [fa 99 1 5,ld 100 99,ln 101 100,od 102 (.bin .gtr (t 101) (ic 0))]
  (.cond (t 102)
  (.drawn [fa 103 1 5,op 104 (.load false 1 (t 103)) [0],mv 105 7,fa 106 1 5,
 op 107 (.load false 1 (t 106)) [3],op 108 (.len (t 107)) [4],op 109 (.bin .rem (t 105) (t 108)) [2,5],mv 110 6,
 op 111 (.bin .rem (t 110) (ic 18)) [7],op 112 (.indexAddr 5 (t 104) (t 109)) ([1,6]++rg 9),op 113 (.fieldAddr 4 (t 112)) ([9]++rg 9),⟨none,.store false 1 (t 113) (t 111),none,([10,8]++rg 9)⟩])
  .skip))
  (sr [eq 115 20 5,mv 114 115]
  (.cond (t 114)
  (sr [fa 116 2 5,ld 117 116,ln 118 117,od 119 (.bin .gtr (t 118) (ic 0))]
  (.cond (t 119)
  (.drawn [fa 120 2 5,op 121 (.load false 1 (t 120)) [0],mv 122 7,fa 123 2 5,
 op 124 (.load false 1 (t 123)) [3],op 125 (.len (t 124)) [4],op 126 (.bin .rem (t 122) (t 125)) [2,5],mv 127 6,
 op 128 (.indexAddr 8 (t 121) (t 126)) ([1,6]++rg 8),op 129 (.fieldAddr 0 (t 128)) ([8]++rg 8),⟨none,.store false 1 (t 129) (t 127),none,([9,7]++rg 8)⟩])
  .skip))
  (sr [eq 131 20 6,mv 130 131]
  (.cond (t 130)
  (sr [fa 132 2 5,ld 133 132,ln 134 133,od 135 (.bin .gtr (t 134) (ic 0))]
  (.cond (t 135)
  (.drawn [fa 136 2 5,op 137 (.load false 1 (t 136)) [0],mv 138 7,fa 139 2 5,
 op 140 (.load false 1 (t 139)) [3],op 141 (.len (t 140)) [4],op 142 (.bin .rem (t 138) (t 141)) [2,5],mv 143 6,
 op 144 (.bin .rem (t 143) (ic 18)) [7],op 145 (.indexAddr 8 (t 137) (t 142)) ([1,6]++rg 9),op 146 (.fieldAddr 7 (t 145)) ([9]++rg 9),⟨none,.store false 1 (t 146) (t 144),none,([10,8]++rg 9)⟩])
  .skip))
  (sr [eq 148 20 7,mv 147 148]
  (.cond (t 147)
  (sr [fa 149 2 5,ld 150 149,ln 151 150,od 152 (.bin .gtr (t 151) (ic 0))]
  (.cond (t 152)
  (.drawn [fa 153 2 5,op 154 (.load false 1 (t 153)) [0],mv 155 7,fa 156 2 5,
 op 157 (.load false 1 (t 156)) [3],op 158 (.len (t 157)) [4],op 159 (.bin .rem (t 155) (t 158)) [2,5],mv 160 6,
 op 161 (.bin .rem (t 160) (ic 7)) [7],op 162 (.bin .sub (t 161) (ic 3)) [8],op 163 (.indexAddr 8 (t 154) (t 159)) ([1,6]++rg 10),op 164 (.fieldAddr 2 (t 163)) ([10]++rg 10),
 ⟨none,.store false 1 (t 164) (t 162),none,([11,9]++rg 10)⟩])
  .skip))
  (sr [eq 166 20 8,mv 165 166]
  (.cond (t 165)
  (sr [fa 167 2 5,ld 168 167,ln 169 168,od 170 (.bin .gtr (t 169) (ic 0))]
  (.cond (t 170)
  (.drawn [fa 171 2 5,op 172 (.load false 1 (t 171)) [0],mv 173 7,fa 174 2 5,
 op 175 (.load false 1 (t 174)) [3],op 176 (.len (t 175)) [4],op 177 (.bin .rem (t 173) (t 176)) [2,5],op 178 (.slice 8 (t 172) none (some (t 177)) none) [1,6],
 fa 179 2 5,op 180 (.load false 1 (t 179)) [8],mv 181 7,fa 182 2 5,
 op 183 (.load false 1 (t 182)) [11],op 184 (.len (t 183)) [12],op 185 (.bin .rem (t 181) (t 184)) [10,13],op 186 (.bin .add (t 185) (ic 1)) [14],
 op 187 (.slice 8 (t 180) (some (t 186)) none none) [9,15],op 188 (.append 3024 8 1450901941607 (t 178) (t 187)) [7,16],op 189 (.fieldAddr 2 (t 5)) (rg 18),⟨none,.store false 1 (t 189) (t 188),none,([18,17,17]++rg 18)⟩])
  .skip))
  (sr [eq 191 20 9,mv 190 191]
  (.cond (t 190)
  (.drawn [fa 192 2 5,op 193 (.load false 1 (t 192)) [0],mv 194 6,op 195 (.bin .add (ic 30) (t 194)) [2],
 mv 196 6,op 197 (.bin .mul (ic 10) (t 196)) [4],op 198 (.build [i0,i0] [(0,1,(t 197)),(1,1,(ic 20))]) [5],od 199 (.build [i0,i0] [(0,1,(ic 55)),(1,1,(ic 65))]),
 op 200 (.buildSlice 3216 2 (.agg [i0,i0]) 2 [(0,(t 198)),(1,(t 199))]) [6,7],mv 201 7,op 202 (.bin .rem (t 201) (ic 2)) [9],mv 203 7,
 op 204 (.call 3280 false (fc 95) [(t 203)]) [11],mv 205 6,op 206 (.bin .add (ic 1) (t 205)) [13],mv 207 7,
 op 208 (.bin .rem (t 207) (ic 3)) [15],op 209 (.bin .add (ic 1) (t 208)) [16],op 210 (.build [i0,.lit 2 [],i0,.str [],.str [],.bool false,i0,i0] [(0,1,(t 195)),(1,1,(t 200)),(2,1,(t 202)),(3,1,(.const (.str [112,97,116,104]))),(4,1,(t 204)),(6,1,(t 206)),(7,1,(t 209))]) [3,8,10,12,14,17],op 211 (.buildSlice 3392 8 (.agg [i0,.nils,i0,.str [],.str [],.bool false,i0,i0]) 1 [(0,(t 210))]) [18],
 op 212 (.append 100 8 1450901941607 (t 193) (t 211)) [1,19,12],op 213 (.fieldAddr 2 (t 5)) (rg 21),⟨none,.store false 1 (t 213) (t 212),none,([21,20,20]++rg 21)⟩])
  (sr [eq 215 20 10,mv 214 215]
  (.cond (t 214)
  (sr [fa 216 3 5,ld 217 216,ln 218 217,od 219 (.bin .gtr (t 218) (ic 0))]
  (.cond (t 219)
  (.seq (.drawn [fa 220 3 5,op 221 (.load false 1 (t 220)) [0],mv 222 7,fa 223 3 5,
 op 224 (.load false 1 (t 223)) [3],op 225 (.len (t 224)) [4],op 226 (.bin .rem (t 222) (t 225)) [2,5],op 227 (.indexAddr 7 (t 221) (t 226)) [1,6],
 op 8 (.move (t 227)) ([7]++rg 8)])
  (.drawn [mv 228 8,mv 229 8,op 230 (.nilCheck (t 229)) [1],op 231 (.fieldAddr 1 (t 230)) [2],
 op 232 (.fieldAddr 0 (t 231)) [3],op 233 (.load false 1 (t 232)) [4],mv 234 6,op 235 (.bin .add (t 233) (t 234)) [5,6],
 op 236 (.bin .sub (t 235) (ic 30)) [7],mv 237 8,op 238 (.nilCheck (t 237)) [9],op 239 (.fieldAddr 1 (t 238)) [10],
 op 240 (.fieldAddr 1 (t 239)) [11],op 241 (.load false 1 (t 240)) [12],mv 242 7,op 243 (.bin .add (t 241) (t 242)) [13,14],
 op 244 (.bin .sub (t 243) (ic 30)) [15],op 245 (.build [i0,i0] [(0,1,(t 236)),(1,1,(t 244))]) [8,16],op 246 (.nilCheck (t 228)) ([0]++rg 18),op 247 (.fieldAddr 1 (t 246)) ([18]++rg 18),
 ⟨none,.store true 2 (t 247) (t 245),none,([19,17]++rg 18)⟩]))
  .skip))
  (sr [eq 249 20 11,mv 248 249]
  (.cond (t 248)
  (sr [fa 250 3 5,ld 251 250,ln 252 251,od 253 (.bin .gtr (t 252) (ic 0))]
  (.cond (t 253)
  (.drawn [fa 254 3 5,op 255 (.load false 1 (t 254)) [0],mv 256 7,fa 257 3 5,
 op 258 (.load false 1 (t 257)) [3],op 259 (.len (t 258)) [4],op 260 (.bin .rem (t 256) (t 259)) [2,5],mv 261 6,
 op 262 (.bin .rem (t 261) (ic 18)) [7],op 263 (.indexAddr 7 (t 255) (t 260)) ([1,6]++rg 9),op 264 (.fieldAddr 6 (t 263)) ([9]++rg 9),⟨none,.store false 1 (t 264) (t 262),none,([10,8]++rg 9)⟩])
  .skip))
  (sr [eq 266 20 12,mv 265 266]
  (.cond (t 265)
  (sr [fa 267 3 5,ld 268 267,ln 269 268,od 270 (.bin .gtr (t 269) (ic 0))]
  (.cond (t 270)
  (.drawn [fa 271 3 5,op 272 (.load false 1 (t 271)) [0],mv 273 7,fa 274 3 5,
 op 275 (.load false 1 (t 274)) [3],op 276 (.len (t 275)) [4],op 277 (.bin .rem (t 273) (t 276)) [2,5],mv 278 6,
 op 279 (.call 4480 false (fc 95) [(t 278)]) [7],op 280 (.indexAddr 7 (t 272) (t 277)) ([1,6]++rg 9),op 281 (.fieldAddr 4 (t 280)) ([9]++rg 9),⟨none,.store false 1 (t 281) (t 279),none,([10,8,8]++rg 9)⟩])
  .skip))
  (sr [eq 283 20 13,mv 282 283]
  (.cond (t 282)
  (sr [fa 284 3 5,ld 285 284,ln 286 285,od 287 (.bin .gtr (t 286) (ic 0))]
  (.cond (t 287)
  (.drawn [fa 288 3 5,op 289 (.load false 1 (t 288)) [0],mv 290 7,fa 291 3 5,
 op 292 (.load false 1 (t 291)) [3],op 293 (.len (t 292)) [4],op 294 (.bin .rem (t 290) (t 293)) [2,5],op 295 (.slice 7 (t 289) none (some (t 294)) none) [1,6],
 fa 296 3 5,op 297 (.load false 1 (t 296)) [8],mv 298 7,fa 299 3 5,
 op 300 (.load false 1 (t 299)) [11],op 301 (.len (t 300)) [12],op 302 (.bin .rem (t 298) (t 301)) [10,13],op 303 (.bin .add (t 302) (ic 1)) [14],
 op 304 (.slice 7 (t 297) (some (t 303)) none none) [9,15],op 305 (.append 4896 7 1927910799188 (t 295) (t 304)) [7,16],op 306 (.fieldAddr 3 (t 5)) (rg 18),⟨none,.store false 1 (t 306) (t 305),none,([18,17,17]++rg 18)⟩])
  .skip))
  (sr [eq 308 20 14,mv 307 308]
  (.cond (t 307)
  (.drawn [fa 309 3 5,op 310 (.load false 1 (t 309)) [0],od 311 (.buildSlice 4992 1 (i0) 4 [(0,(ic 0)),(1,(ic 1073741824)),(2,(ic 1073741825)),(3,(ic 70))]),mv 312 6,
 op 313 (.bin .rem (t 312) (ic 4)) [3],op 314 (.indexAddr 1 (t 311) (t 313)) [2,4],op 315 (.load false 1 (t 314)) [5],mv 316 6,
 op 317 (.bin .quo (t 316) (ic 4)) [7],op 318 (.bin .add (t 315) (t 317)) [6,8],mv 319 6,op 320 (.bin .mul (ic 5) (t 319)) [10],
 op 321 (.bin .add (ic 50) (t 320)) [11],mv 322 7,op 323 (.bin .mul (ic 2) (t 322)) [13],op 324 (.bin .add (ic 50) (t 323)) [14],
 op 325 (.build [i0,i0] [(0,1,(t 321)),(1,1,(t 324))]) [12,15],mv 326 7,op 327 (.call 5248 false (fc 95) [(t 326)]) [17],mv 328 6,
 op 329 (.bin .rem (t 328) (ic 2)) [19],op 330 (.bin .add (ic 1) (t 329)) [20],op 331 (.build [i0,i0,i0,.str [],.str [],i0,i0] [(0,1,(t 318)),(1,2,(t 325)),(3,1,(.const (.str [115,104,111,112]))),(4,1,(t 327)),(5,1,(ic 5)),(6,1,(t 330))]) [9,16,18,21],op 332 (.buildSlice 5328 7 (.agg [i0,i0,i0,.str [],.str [],i0,i0]) 1 [(0,(t 331))]) [22],
 op 333 (.append 101 7 1927910799188 (t 310) (t 332)) [1,23,18],op 334 (.fieldAddr 3 (t 5)) (rg 25),⟨none,.store false 1 (t 334) (t 333),none,([25,24,24]++rg 25)⟩])
  (sr [eq 336 20 15,mv 335 336]
  (.cond (t 335)
  (sr [fa 337 3 5,ld 338 337,ln 339 338,od 340 (.bin .gtr (t 339) (ic 0))]
  (.cond (t 340)
  (.drawn [fa 341 3 5,op 342 (.load false 1 (t 341)) [0],mv 343 7,fa 344 3 5,
 op 345 (.load false 1 (t 344)) [3],op 346 (.len (t 345)) [4],op 347 (.bin .rem (t 343) (t 346)) [2,5],mv 348 6,
 op 349 (.bin .mul (t 348) (ic 5)) [7],op 350 (.indexAddr 7 (t 342) (t 347)) ([1,6]++rg 9),op 351 (.fieldAddr 5 (t 350)) ([9]++rg 9),⟨none,.store false 1 (t 351) (t 349),none,([10,8]++rg 9)⟩])
  .skip))
  (sr [eq 353 20 16,mv 352 353]
  (.cond (t 352)
  (sr [mc 9 0]
  (.block 1 (.loop Hv)))
  .skip))))))))))))))))))))))))))))))))))))
  (sr [od 373 (.qJ [4,5,8,7] true 4 (t 5)),ow (.store true 4 (t 4) (t 373))]
  .ret))))))
def f79:aB:=⟨2,374,[],[.cell 4 true 4],MM,none⟩
abbrev Eo:al:=
  (.seq (sr [mv 70 6,mv 71 0,mv 72 5,od 73 (.indexAddr 4 (t 71) (t 72)),
 fa 74 3 73,ld 75 74,ln 76 75,ls 77 70 76]
  (.cond (t 77)
  .skip
  (.exit 2)))
  (.seq (.block 3 (.seq (.drawn [mv 80 0,mv 81 5,op 82 (.indexAddr 4 (t 80) (t 81)) [0,1],op 83 (.fieldAddr 3 (t 82)) [2],
 op 84 (.load false 1 (t 83)) [3],mv 85 6,op 86 (.indexAddr 1 (t 84) (t 85)) [4,5],op 87 (.load false 1 (t 86)) [6],
 mv 88 1,mv 89 5,op 90 (.indexAddr 4 (t 88) (t 89)) [8,9],op 91 (.fieldAddr 3 (t 90)) [10],
 op 92 (.load false 1 (t 91)) [11],mv 93 6,op 94 (.indexAddr 1 (t 92) (t 93)) [12,13],op 95 (.load false 1 (t 94)) [14],
 op 96 (.bin .neq (t 87) (t 95)) [7,15]])
  (.cond (t 96)
  (sr [od 4 (.move (.const (.bool false)))]
  .ret)
  .skip)))
  (rn [mv 78 6,ad 79 78 1,mv 6 79])))
abbrev Ep:al:=
  (.seq (sr [mv 12 5,mv 13 0,ln 14 13,ls 15 12 14]
  (.cond (t 15)
  .skip
  (.exit 0)))
  (.seq (.block 1 (.seq (.seq (.drawn [mv 18 0,mv 19 5,op 20 (.indexAddr 4 (t 18) (t 19)) [0,1],op 21 (.fieldAddr 0 (t 20)) [2],
 op 22 (.load false 1 (t 21)) [3],mv 23 1,mv 24 5,op 25 (.indexAddr 4 (t 23) (t 24)) [5,6],
 op 26 (.fieldAddr 0 (t 25)) [7],op 27 (.load false 1 (t 26)) [8],op 28 (.bin .neq (t 22) (t 27)) [4,9],op 29 (.move (t 28)) [10],
 ⟨some 30,.move (t 0),some (29,false),[11]⟩,⟨some 31,.move (t 5),some (29,false),[11]⟩,⟨some 32,.indexAddr 4 (t 30) (t 31),some (29,false),[12,13,11]⟩,⟨some 33,.fieldAddr 1 (t 32),some (29,false),[14,11]⟩,
 ⟨some 34,.load false 1 (t 33),some (29,false),[15,11]⟩,⟨some 35,.move (t 1),some (29,false),[11]⟩,⟨some 36,.move (t 5),some (29,false),[11]⟩,⟨some 37,.indexAddr 4 (t 35) (t 36),some (29,false),[17,18,11]⟩,
 ⟨some 38,.fieldAddr 1 (t 37),some (29,false),[19,11]⟩,⟨some 39,.load false 1 (t 38),some (29,false),[20,11]⟩,⟨some 40,.bin .neq (t 34) (t 39),some (29,false),[16,21,11]⟩,op 41 (.pick (t 29) (.const (.bool true)) (t 40)) [11,22],
 op 42 (.move (t 41)) [23,11],⟨some 43,.move (t 0),some (42,false),[24]⟩,⟨some 44,.move (t 5),some (42,false),[24]⟩,⟨some 45,.indexAddr 4 (t 43) (t 44),some (42,false),[25,26,24]⟩,
 ⟨some 46,.fieldAddr 2 (t 45),some (42,false),[27,24]⟩,⟨some 47,.load false 1 (t 46),some (42,false),[28,24]⟩,⟨some 48,.move (t 1),some (42,false),[24]⟩,⟨some 49,.move (t 5),some (42,false),[24]⟩,
 ⟨some 50,.indexAddr 4 (t 48) (t 49),some (42,false),[30,31,24]⟩,⟨some 51,.fieldAddr 2 (t 50),some (42,false),[32,24]⟩,⟨some 52,.load false 1 (t 51),some (42,false),[33,24]⟩,⟨some 53,.bin .neq (t 47) (t 52),some (42,false),[29,34,24]⟩,
 op 54 (.pick (t 42) (.const (.bool true)) (t 53)) [24,35],op 55 (.move (t 54)) [36,24],⟨some 56,.move (t 0),some (55,false),[37]⟩,⟨some 57,.move (t 5),some (55,false),[37]⟩,
 ⟨some 58,.indexAddr 4 (t 56) (t 57),some (55,false),[38,39,37]⟩,⟨some 59,.fieldAddr 3 (t 58),some (55,false),[40,37]⟩,⟨some 60,.load false 1 (t 59),some (55,false),[41,37]⟩,⟨some 61,.len (t 60),some (55,false),[42,37]⟩,
 ⟨some 62,.move (t 1),some (55,false),[37]⟩,⟨some 63,.move (t 5),some (55,false),[37]⟩,⟨some 64,.indexAddr 4 (t 62) (t 63),some (55,false),[44,45,37]⟩,⟨some 65,.fieldAddr 3 (t 64),some (55,false),[46,37]⟩,
 ⟨some 66,.load false 1 (t 65),some (55,false),[47,37]⟩,⟨some 67,.len (t 66),some (55,false),[48,37]⟩,⟨some 68,.bin .neq (t 61) (t 67),some (55,false),[43,49,37]⟩,op 69 (.pick (t 55) (.const (.bool true)) (t 68)) [37,50]])
  (.cond (t 69)
  (sr [od 4 (.move (.const (.bool false)))]
  .ret)
  .skip))
  (sr [mc 6 0]
  (.block 2 (.loop Eo)))))
  (rn [mv 16 5,ad 17 16 1,mv 5 17])))
def Hw:al:=
  (sr [od 4 (.move (.const (.bool false)))]
  (.seq (sr [mv 7 0,ln 8 7,mv 9 1,ln 10 9,
 od 11 (.bin .neq (t 8) (t 10))]
  (.cond (t 11)
  (sr [od 4 (.move (.const (.bool false)))]
  .ret)
  .skip))
  (.seq (sr [mc 5 0]
  (.block 0 (.loop Ep)))
  (sr [od 4 (.move (.const (.bool true)))]
  .ret))))
def Hx:aB:=⟨2,97,[],[.tmp 4],Hw,none⟩
abbrev Er:al:=
  (sr [ls 81 80 79]
  (.seq (.cond (t 81)
  .skip
  (.exit 0))
  (.seq (.block 1 (sr [od 82 (.indexAddr 5 (t 78) (t 80)),la 83 5 82,od 10 (.new 176 5 (.const (.agg [i0,.str [],.str [],i0,i0]))),ow (.store true 5 (t 10) (t 83))]
  (rn [mv 84 8,la 85 5 10,ca 86 1392 452 [(t 85)],od 87 (.buildSlice 1408 9 (.agg [i0,.str [],.str [],i0,i0,.bool false,i0,i0,i0]) 1 [(0,(t 86))]),
 od 88 (.append 145 9 1581320093680 (t 84) (t 87)),od 8 (.il 145 (t 88))])))
  (rn [ad 89 80 1,mv 80 89]))))
abbrev Es:al:=
  (sr [ls 94 93 92]
  (.seq (.cond (t 94)
  .skip
  (.exit 2))
  (.seq (.block 3 (sr [od 95 (.indexAddr 8 (t 91) (t 93)),la 96 8 95,od 12 (.new 208 8 (.const (.agg [i0,.lit 2 [],i0,.str [],.str [],.bool false,i0,i0]))),ow (.store true 8 (t 12) (t 96))]
  (rn [mv 97 8,la 98 8 12,ca 99 1600 453 [(t 98)],od 100 (.buildSlice 1616 9 (.agg [i0,.str [],.str [],i0,i0,.bool false,i0,i0,i0]) 1 [(0,(t 99))]),
 od 101 (.append 145 9 1581320093680 (t 97) (t 100)),od 8 (.il 145 (t 101))])))
  (rn [ad 102 93 1,mv 93 102]))))
abbrev Et:al:=
  (sr [ls 107 106 105]
  (.seq (.cond (t 107)
  .skip
  (.exit 4))
  (.seq (.block 5 (sr [od 108 (.indexAddr 7 (t 104) (t 106)),la 109 7 108,od 14 (.new 240 7 (.const (.agg [i0,i0,i0,.str [],.str [],i0,i0]))),ow (.store true 7 (t 14) (t 109))]
  (rn [mv 110 8,la 111 7 14,ca 112 1808 454 [(t 111)],od 113 (.buildSlice 1824 9 (.agg [i0,.str [],.str [],i0,i0,.bool false,i0,i0,i0]) 1 [(0,(t 112))]),
 od 114 (.append 145 9 1581320093680 (t 110) (t 113)),od 8 (.il 145 (t 114))])))
  (rn [ad 115 106 1,mv 106 115]))))
abbrev zF:al:=
  (sr [ls 123 122 121]
  (.seq (.cond (t 123)
  .skip
  (.exit 6))
  (.seq (.block 7 (sr [od 124 (.indexAddr 9 (t 120) (t 122)),la 125 9 124,od 22 (.new 368 9 (.const (.agg [i0,.str [],.str [],i0,i0,.bool false,i0,i0,i0]))),ow (.store true 9 (t 22) (t 125))]
  (.seq (.drawn [mv 126 15,fa 127 0 22,op 128 (.load false 1 (t 127)) [1],op 129 (.buildSlice 2080 1 (i0) 1 [(0,(t 128))]) [2],
 op 130 (.append 257 1 15637498705947 (t 126) (t 129)) [0,3],mv 131 16,fa 132 3 22,op 133 (.load false 1 (t 132)) [6],
 op 134 (.buildSlice 2160 1 (i0) 1 [(0,(t 133))]) [7],op 135 (.append 273 1 15637498705947 (t 131) (t 134)) [5,8,4],mv 136 17,fa 137 4 22,
 op 138 (.load false 1 (t 137)) [11],op 139 (.buildSlice 2240 1 (i0) 1 [(0,(t 138))]) [12],op 140 (.append 289 1 15637498705947 (t 136) (t 139)) [10,13,9],op 15 (.il 257 (t 130)) ([4,14]++rg 5),
 op 16 (.il 273 (t 135)) [9,15,0,1,2,3,4,5,6,7,8,9,15],op 17 (.il 289 (t 140)) ([14,16]++rg 17)])
  (.seq (.drawn [mv 141 19,fa 142 1 22,op 143 (.load false 1 (t 142)) [1],op 144 (.buildSlice 2320 1 (.str []) 1 [(0,(t 143))]) [2],
 op 145 (.append 321 1 8278675785407 (t 141) (t 144)) [0,3],mv 146 20,fa 147 2 22,op 148 (.load false 1 (t 147)) [6],
 op 149 (.buildSlice 2400 1 (.str []) 1 [(0,(t 148))]) [7],op 150 (.append 337 1 8278675785407 (t 146) (t 149)) [5,8,4],op 19 (.il 321 (t 145)) ([4,9]++rg 5),op 20 (.il 337 (t 150)) ([9,10]++rg 11)])
  (sr [mc 23 0]
  (.seq (sr [fa 151 5 22,ld 152 151]
  (.cond (t 152)
  (rn [mc 23 1])
  .skip))
  (rn [mv 153 18,mv 154 23,od 155 (.buildSlice 2496 1 (i0) 1 [(0,(t 154))]),od 156 (.append 305 1 15637498705947 (t 153) (t 155)),
 od 18 (.il 305 (t 156))])))))))
  (rn [ad 157 122 1,mv 122 157]))))
def Hy:al:=
  (sr [od 2 (.new 48 4 (t 0)),od 3 (.new 64 7 (t 1)),od 4 (.move (.const (.lit 4 [])))]
  (sr [fa 26 2 3,la 27 2 26,ca 28 464 449 [(t 27)],mv 5 28]
  (.seq (sr [fa 29 2 3,fa 30 0 29,ld 31 30,fa 32 2 3,
 fa 33 1 32,ld 34 33,od 35 (.max [(t 31),(t 34)]),od 36 (.bin .gtr (t 35) (ic 1024)),
 mv 37 36,og 38 (.fieldAddr 2 (t 3)) 37 false,og 39 (.fieldAddr 0 (t 38)) 37 false,og 40 (.load false 1 (t 39)) 37 false,
 og 41 (.fieldAddr 2 (t 3)) 37 false,og 42 (.fieldAddr 1 (t 41)) 37 false,og 43 (.load false 1 (t 42)) 37 false,og 44 (.min [(t 40),(t 43)]) 37 false,
 og 45 (.bin .lss (t 44) (ic (-1024))) 37 false,od 46 (.pick (t 37) (.const (.bool true)) (t 45)),mv 47 46,og 48 (.move (t 5)) 47 false,
 og 49 (.bin .lss (t 48) (ic 1)) 47 false,od 50 (.pick (t 47) (.const (.bool true)) (t 49)),mv 51 50,og 52 (.move (t 5)) 51 false,
 og 53 (.bin .gtr (t 52) (ic 1048576)) 51 false,od 54 (.pick (t 51) (.const (.bool true)) (t 53)),mv 55 54,og 56 (.fieldAddr 6 (t 3)) 55 false,
 og 57 (.load false 1 (t 56)) 55 false,og 58 (.bin .lss (t 57) (ic 0)) 55 false,od 59 (.pick (t 55) (.const (.bool true)) (t 58)),mv 60 59,
 og 61 (.fieldAddr 6 (t 3)) 60 false,og 62 (.load false 1 (t 61)) 60 false,og 63 (.bin .gtr (t 62) (ic 23)) 60 false,od 64 (.pick (t 60) (.const (.bool true)) (t 63))]
  (.cond (t 64)
  (sr [od 4 (.move (.const (.lit 4 [])))]
  .ret)
  .skip))
  (sr [mv 65 5,ca 66 1072 450 [(t 65)],mv 6 66]
  (.seq (.drawn [mv 67 6,op 68 (.buildSlice 1104 1 (i0) 1 [(0,(t 67))]) [0],op 69 (.call 1120 false (fc 451) [(ic 7),(t 68)]) [1],fa 70 6 3,
 op 71 (.load false 1 (t 70)) [3],op 72 (.buildSlice 1168 1 (i0) 1 [(0,(t 71))]) [4],op 73 (.call 1184 false (fc 451) [(ic 8),(t 72)]) [5,2],od 74 (.buildSlice 1200 1 (i0) 1 [(0,(ic 1))]),
 op 75 (.call 1216 false (fc 451) [(ic 9),(t 74)]) [7,6],op 76 (.buildSlice 1232 4 (.agg [i0,i0,i0,.nils]) 3 [(0,(t 69)),(1,(t 73)),(2,(t 75))]) [2,6,8],op 7 (.il 129 (t 76)) ([9,8]++rg 10)])
  (sr [od 8 (.bU 145 9)]
  (.seq (sr [fa 77 1 2,ld 78 77,ln 79 78,mc 80 0]
  (.block 0 (.loop Er)))
  (.seq (sr [fa 90 2 2,ld 91 90,ln 92 91,mc 93 0]
  (.block 2 (.loop Es)))
  (.seq (sr [fa 103 3 2,ld 104 103,ln 105 104,mc 106 0]
  (.block 4 (.loop Et)))
  (.seq (sr [mv 116 8,ln 117 116,eq 118 117 0]
  (.cond (t 118)
  (sr [mv 119 7,mv 4 119]
  .ret)
  .skip))
  (sr [od 15 (.bU 257 1),od 16 (.bU 273 1),od 17 (.bU 289 1),od 18 (.bU 305 1)]
  (sr [od 19 (.bU 321 1),od 20 (.bU 337 1)]
  (.seq (sr [mv 120 8,ln 121 120,mc 122 0]
  (.block 6 (.loop zF)))
  (sr [mv 158 16,ca 159 2560 451 [(ic 4),(t 158)],od 24 (.new 400 4 (.const (.agg [i0,i0,i0,.lit 1 []]))),ow (.store true 4 (t 24) (t 159))]
  (sr [fa 160 2 24,ld 161 160,od 162 (.max [(t 161),(ic 255)]),fa 163 2 24,
 ow (.store false 1 (t 163) (t 162))]
  (.seq (.drawn [mv 164 15,op 165 (.call 2656 false (fc 451) [(ic 1),(t 164)]) [0],mv 166 19,op 167 (.call 2688 false (fc 455) [(ic 2),(t 166)]) [2,1],
 mv 168 20,op 169 (.call 2720 false (fc 455) [(ic 3),(t 168)]) [4,3],la 170 4 24,mv 171 17,
 op 172 (.call 2768 false (fc 451) [(ic 5),(t 171)]) [7,5],mv 173 18,op 174 (.call 2800 false (fc 451) [(ic 6),(t 173)]) [9,8],op 175 (.buildSlice 2816 4 (.agg [i0,i0,i0,.nils]) 6 [(0,(t 165)),(1,(t 167)),(2,(t 169)),(3,(t 170)),(4,(t 172)),(5,(t 174))]) [1,3,5,6,8,10],
 op 25 (.il 417 (t 175)) ([11,10]++rg 12)])
  (sr [mv 176 25,mv 177 7,od 178 (.append 417 4 2872193639704 (t 176) (t 177)),mv 4 178]
  .ret)))))))))))))))))
def Hz:aB:=⟨2,179,[],[.tmp 4],Hy,none⟩
abbrev Eu:al:=
  (.seq (sr [mv 19 6,fa 20 1 2,ld 21 20,ln 22 21,
 ls 23 19 22]
  (.cond (t 23)
  .skip
  (.exit 0)))
  (.seq (.block 1 (rn [mv 26 5,fa 27 1 2,ld 28 27,mv 29 6,
 od 30 (.indexAddr 5 (t 28) (t 29)),la 31 5 30,ca 32 528 457 [(t 31)],od 33 (.buildSlice 544 9 (.agg [i0,.str [],.str [],i0,i0,.bool false,i0,i0,i0]) 1 [(0,(t 32))]),
 od 34 (.append 97 9 1581320093680 (t 26) (t 33)),od 5 (.il 97 (t 34))]))
  (rn [mv 24 6,ad 25 24 1,mv 6 25])))
abbrev Ew:al:=
  (.seq (sr [mv 35 7,fa 36 2 2,ld 37 36,ln 38 37,
 ls 39 35 38]
  (.cond (t 39)
  .skip
  (.exit 2)))
  (.seq (.block 3 (rn [mv 42 5,fa 43 2 2,ld 44 43,mv 45 7,
 od 46 (.indexAddr 8 (t 44) (t 45)),la 47 8 46,ca 48 784 458 [(t 47)],od 49 (.buildSlice 800 9 (.agg [i0,.str [],.str [],i0,i0,.bool false,i0,i0,i0]) 1 [(0,(t 48))]),
 od 50 (.append 97 9 1581320093680 (t 42) (t 49)),od 5 (.il 97 (t 50))]))
  (rn [mv 40 7,ad 41 40 1,mv 7 41])))
abbrev Ex:al:=
  (.seq (sr [mv 51 8,fa 52 3 2,ld 53 52,ln 54 53,
 ls 55 51 54]
  (.cond (t 55)
  .skip
  (.exit 4)))
  (.seq (.block 5 (rn [mv 58 5,fa 59 3 2,ld 60 59,mv 61 8,
 od 62 (.indexAddr 7 (t 60) (t 61)),la 63 7 62,ca 64 1040 459 [(t 63)],od 65 (.buildSlice 1056 9 (.agg [i0,.str [],.str [],i0,i0,.bool false,i0,i0,i0]) 1 [(0,(t 64))]),
 od 66 (.append 97 9 1581320093680 (t 58) (t 65)),od 5 (.il 97 (t 66))]))
  (rn [mv 56 8,ad 57 56 1,mv 8 57])))
abbrev zG:al:=
  (.seq (sr [mv 112 15,od 113 (.bin .lss (t 112) (ic 6))]
  (.cond (t 113)
  .skip
  (.exit 8)))
  (.seq (.block 9 (.seq (.seq (.drawn [mv 116 12,op 117 (.bin .eql (t 116) (ic 0)) [0],op 118 (.move (t 117)) [1],⟨some 119,.move (t 15),some (118,false),[2]⟩,
 ⟨some 120,.aR 6 1 (t 14) (t 119),some (118,false),[3,2]⟩,⟨some 121,.load false 1 (t 120),some (118,false),[4,2]⟩,⟨some 122,.move (t 11),some (118,false),[2]⟩,⟨some 123,.move (t 15),some (118,false),[2]⟩,
 ⟨some 124,.indexAddr 4 (t 122) (t 123),some (118,false),[6,7,2]⟩,⟨some 125,.fieldAddr 1 (t 124),some (118,false),[8,2]⟩,⟨some 126,.load false 1 (t 125),some (118,false),[9,2]⟩,⟨some 127,.bin .lss (t 121) (t 126),some (118,false),[5,10,2]⟩,
 op 128 (.pick (t 118) (.const (.bool true)) (t 127)) [2,11]])
  (.cond (t 128)
  (rn [mv 129 11,mv 130 15,mv 131 15,od 132 (.aR 6 1 (t 14) (t 131)),
 ld 133 132,od 134 (.indexAddr 4 (t 129) (t 130)),fa 135 1 134,ow (.store false 1 (t 135) (t 133))])
  .skip))
  (.seq (.drawn [mv 136 12,op 137 (.bin .eql (t 136) (ic 0)) [0],op 138 (.move (t 137)) [1],⟨some 139,.move (t 15),some (138,false),[2]⟩,
 ⟨some 140,.aR 6 1 (t 14) (t 139),some (138,false),[3,2]⟩,⟨some 141,.load false 1 (t 140),some (138,false),[4,2]⟩,⟨some 142,.move (t 11),some (138,false),[2]⟩,⟨some 143,.move (t 15),some (138,false),[2]⟩,
 ⟨some 144,.indexAddr 4 (t 142) (t 143),some (138,false),[6,7,2]⟩,⟨some 145,.fieldAddr 2 (t 144),some (138,false),[8,2]⟩,⟨some 146,.load false 1 (t 145),some (138,false),[9,2]⟩,⟨some 147,.bin .gtr (t 141) (t 146),some (138,false),[5,10,2]⟩,
 op 148 (.pick (t 138) (.const (.bool true)) (t 147)) [2,11]])
  (.cond (t 148)
  (rn [mv 149 11,mv 150 15,mv 151 15,od 152 (.aR 6 1 (t 14) (t 151)),
 ld 153 152,od 154 (.indexAddr 4 (t 149) (t 150)),fa 155 2 154,ow (.store false 1 (t 155) (t 153))])
  .skip))))
  (rn [mv 114 15,ad 115 114 1,mv 15 115])))
abbrev zH:al:=
  (.seq (sr [mv 92 12,mv 93 5,ln 94 93,ls 95 92 94]
  (.cond (t 95)
  .skip
  (.exit 6)))
  (.seq (.block 7 (sr [mv 98 5,mv 99 12,od 100 (.indexAddr 9 (t 98) (t 99)),la 101 9 100,
 od 13 (.new 224 9 (.const (.agg [i0,.str [],.str [],i0,i0,.bool false,i0,i0,i0]))),ow (.store true 9 (t 13) (t 101))]
  (sr [fa 102 0 13,ld 103 102,fa 104 3 13,ld 105 104,
 fa 106 4 13,ld 107 106,od 108 (.build [i0,i0,i0,i0,i0,i0] [(0,1,(t 103)),(1,1,(ic 0)),(2,1,(ic 0)),(3,1,(t 105)),(4,1,(t 107)),(5,1,(ic 0))]),od 14 (.new 240 6 (.const (.agg [i0,i0,i0,i0,i0,i0]))),
 ow (.store true 6 (t 14) (t 108))]
  (.seq (sr [fa 109 5 13,ld 110 109]
  (.cond (t 110)
  (rn [od 111 (.aR 6 1 (t 14) (ic 5)),ow (.store false 1 (t 111) (ic 1))])
  .skip))
  (.seq (sr [mc 15 0]
  (.block 8 (.loop zG)))
  (.seq (.drawn [mv 156 11,mv 157 11,op 158 (.indexAddr 4 (t 157) (ic 1)) [1],op 159 (.fieldAddr 3 (t 158)) [2],
 op 160 (.load false 1 (t 159)) [3],fa 161 1 13,op 162 (.load false 1 (t 161)) [5],op 163 (.call 2624 false (fc 462) [(t 160),(t 162)]) [4,6],
 op 164 (.indexAddr 4 (t 156) (ic 1)) ([0]++rg 8),op 165 (.fieldAddr 3 (t 164)) ([8]++rg 8),⟨none,.store false 1 (t 165) (t 163),none,([9,7,7]++rg 8)⟩])
  (.drawn [mv 166 11,mv 167 11,op 168 (.indexAddr 4 (t 167) (ic 2)) [1],op 169 (.fieldAddr 3 (t 168)) [2],
 op 170 (.load false 1 (t 169)) [3],fa 171 2 13,op 172 (.load false 1 (t 171)) [5],op 173 (.call 2784 false (fc 462) [(t 170),(t 172)]) [4,6],
 op 174 (.indexAddr 4 (t 166) (ic 2)) ([0]++rg 8),op 175 (.fieldAddr 3 (t 174)) ([8]++rg 8),⟨none,.store false 1 (t 175) (t 173),none,([9,7,7]++rg 8)⟩])))))))
  (rn [mv 96 12,ad 97 96 1,mv 12 97])))
def HA:al:=
  (sr [od 2 (.new 48 4 (t 0)),od 3 (.new 64 7 (t 1)),od 4 (.move (.const (.lit 4 [])))]
  (.seq (sr [la 16 7 3,ca 17 288 456 [(t 16)],od 18 (.un .not (t 17))]
  (.cond (t 18)
  (sr [od 4 (.move (.const (.lit 4 [])))]
  .ret)
  .skip))
  (sr [od 5 (.bU 97 9)]
  (.seq (sr [mc 6 0]
  (.block 0 (.loop Eu)))
  (.seq (sr [mc 7 0]
  (.block 2 (.loop Ew)))
  (.seq (sr [mc 8 0]
  (.block 4 (.loop Ex)))
  (sr [fa 67 2 3,la 68 2 67,ca 69 1120 461 [(t 68)],ca 70 1136 460 [(t 69)],
 mv 9 70]
  (sr [mv 71 9,mv 72 9,od 73 (.build [i0,i0,i0,.lit 1 []] [(0,1,(ic 7)),(1,1,(t 71)),(2,1,(t 72))]),fa 74 6 3,
 ld 75 74,fa 76 6 3,ld 77 76,od 78 (.build [i0,i0,i0,.lit 1 []] [(0,1,(ic 8)),(1,1,(t 75)),(2,1,(t 77))]),
 od 79 (.build [i0,i0,i0,.lit 1 []] [(0,1,(ic 9)),(1,1,(ic 1)),(2,1,(ic 1))]),od 80 (.buildSlice 1296 4 (.agg [i0,i0,i0,.nils]) 3 [(0,(t 73)),(1,(t 78)),(2,(t 79))]),od 10 (.il 177 (t 80))]
  (.seq (sr [mv 81 5,ln 82 81,eq 83 82 0]
  (.cond (t 83)
  (sr [mv 84 10,mv 4 84]
  .ret)
  .skip))
  (sr [od 85 (.build [i0,i0,i0,.lit 1 []] [(0,1,(ic 1))]),od 86 (.build [i0,i0,i0,.lit 1 []] [(0,1,(ic 2))]),od 87 (.build [i0,i0,i0,.lit 1 []] [(0,1,(ic 3))]),od 88 (.build [i0,i0,i0,.lit 1 []] [(0,1,(ic 4))]),
 od 89 (.build [i0,i0,i0,.lit 1 []] [(0,1,(ic 5))]),od 90 (.build [i0,i0,i0,.lit 1 []] [(0,1,(ic 6))]),od 91 (.buildSlice 1472 4 (.agg [i0,i0,i0,.nils]) 6 [(0,(t 85)),(1,(t 86)),(2,(t 87)),(3,(t 88)),(4,(t 89)),(5,(t 90))]),od 11 (.il 193 (t 91))]
  (.seq (sr [mc 12 0]
  (.block 6 (.loop zH)))
  (sr [mv 176 11,mv 177 11,od 178 (.indexAddr 4 (t 177) (ic 3)),fa 179 2 178,
 ld 180 179,od 181 (.max [(t 180),(ic 255)]),od 182 (.indexAddr 4 (t 176) (ic 3)),fa 183 2 182,
 ow (.store false 1 (t 183) (t 181))]
  (sr [mv 184 11,mv 185 10,od 186 (.append 193 4 2872193639704 (t 184) (t 185)),mv 4 186]
  .ret)))))))))))))
def HB:aB:=⟨2,187,[],[.tmp 4],HA,none⟩
def HC:al:=
  (sr [od 8 (.move (.const (.bool false)))]
  (sr [od 13 (.build [i0,i0,i0,.lit 1 []] [(0,1,(ic 4)),(1,1,(ic 5)),(2,1,(ic 9))]),od 14 (.buildSlice 240 1 (.str []) 2 [(0,(.const (.str [116,114,101,101]))),(1,(.const (.str [115,104,111,112])))]),od 15 (.build [i0,i0,i0,.lit 1 []] [(0,1,(ic 2)),(3,1,(t 14))]),od 16 (.build [i0,i0,i0,.lit 1 []] [(0,1,(ic 6))]),
 od 17 (.buildSlice 288 4 (.agg [i0,i0,i0,.nils]) 3 [(0,(t 13)),(1,(t 15)),(2,(t 16))]),od 9 (.il 161 (t 17))]
  (sr [mv 19 0,ca 20 336 366 [(t 19)],mv 21 9,ca 22 368 317 [(t 20),(t 21)],
 mv 18 22,xt 23 18 0,xt 24 18 1,xt 25 18 2,
 mv 10 23,mv 11 24,mv 12 25]
  (sr [mv 26 0,ca 27 448 366 [(t 26)],mv 28 9,ca 29 480 320 [(t 27),(t 28)],
 mv 30 1,ca 31 512 366 [(t 30)],ca 32 528 319 [(t 29),(t 31)],mv 33 32,
 og 34 (.move (t 12)) 33 true,og 35 (.move (t 34)) 33 true,og 36 (.move (t 10)) 35 true,og 37 (.move (t 2)) 35 true,
 og 38 (.bin .eql (t 36) (t 37)) 35 true,og 39 (.pick (t 35) (t 38) (.const (.bool false))) 33 true,og 40 (.move (t 39)) 33 true,og 41 (.move (t 11)) 40 true,
 og 42 (.move (t 3)) 40 true,og 43 (.bin .eql (t 41) (t 42)) 40 true,og 44 (.pick (t 40) (t 43) (.const (.bool false))) 33 true,og 45 (.move (t 44)) 33 true,
 og 46 (.move (t 12)) 45 false,og 47 (.un .not (t 46)) 45 false,og 48 (.move (t 47)) 45 false,og 49 (.move (t 2)) 48 true,
 og 50 (.move (t 3)) 48 true,og 51 (.bin .gtr (t 49) (t 50)) 48 true,og 52 (.pick (t 48) (t 51) (.const (.bool false))) 45 false,og 53 (.pick (t 45) (.const (.bool true)) (t 52)) 33 true,
 od 54 (.pick (t 33) (t 53) (.const (.bool false))),mv 8 54]
  .ret))))
def MN:aB:=⟨4,55,[],[.tmp 8],HC,none⟩
def HD:al:=
  (sr [od 2 (.new 48 9 (t 0)),od 4 (.move (.const (.bool false)))]
  (sr [mv 5 1,od 6 (.im 347 [(t 2)]),ca 7 128 346 [(t 5),(t 6)],od 8 (.un .not (t 7)),
 mv 4 8]
  .ret))
def MO:aB:=⟨2,9,[],[.tmp 4],HD,none⟩
abbrev HE:al:=
  (.seq (sr [mv 55 12,mv 56 9,ls 57 55 56]
  (.cond (t 57)
  .skip
  (.exit 2)))
  (.seq (.block 3 (sr [mv 60 11,mv 61 12,mv 62 11,od 63 (.bin .add (ic 21) (t 62)),
 mv 64 8,mv 65 12,od 66 (.bin .mul (t 64) (t 65)),od 67 (.bin .add (t 63) (t 66)),
 od 68 (.aR 3 2 (t 10) (t 60)),od 69 (.aR 2 1 (t 68) (t 61)),ow (.store false 1 (t 69) (t 67))]
  (.seq (sr [mv 70 11,od 71 (.bin .gtr (t 70) (ic 0)),mv 72 71,og 73 (.move (t 7)) 72 true,
 og 74 (.call 1200 false (fc 85) [(t 73),(ic 5)]) 72 true,og 75 (.bin .eql (t 74) (ic 0)) 72 true,od 76 (.pick (t 72) (t 75) (.const (.bool false)))]
  (.cond (t 76)
  (.drawn [mv 77 11,mv 78 12,mv 79 11,op 80 (.bin .sub (t 79) (ic 1)) [2],
 mv 81 12,op 82 (.aR 3 2 (t 10) (t 80)) [3],op 83 (.aR 2 1 (t 82) (t 81)) [5,4],op 84 (.load false 1 (t 83)) [6],
 op 85 (.aR 3 2 (t 10) (t 77)) [0],op 86 (.aR 2 1 (t 85) (t 78)) ([8,1]++rg 8),⟨none,.store false 1 (t 86) (t 84),none,([9,7]++rg 8)⟩])
  .skip))
  (sr [mv 87 12,od 88 (.bin .gtr (t 87) (ic 0)),mv 89 88,og 90 (.move (t 7)) 89 true,
 og 91 (.call 1472 false (fc 85) [(t 90),(ic 5)]) 89 true,og 92 (.bin .eql (t 91) (ic 0)) 89 true,od 93 (.pick (t 89) (t 92) (.const (.bool false)))]
  (.cond (t 93)
  (.drawn [mv 94 11,mv 95 12,mv 96 11,mv 97 12,
 op 98 (.bin .sub (t 97) (ic 1)) [3],op 99 (.aR 3 2 (t 10) (t 96)) [2],op 100 (.aR 2 1 (t 99) (t 98)) [5,4],op 101 (.load false 1 (t 100)) [6],
 op 102 (.aR 3 2 (t 10) (t 94)) [0],op 103 (.aR 2 1 (t 102) (t 95)) ([8,1]++rg 8),⟨none,.store false 1 (t 103) (t 101),none,([9,7]++rg 8)⟩])
  .skip)))))
  (rn [mv 58 12,ad 59 58 1,mv 12 59])))
abbrev vz:al:=
 (.seq (sr [mv 50 11,mv 51 8,ls 52 50 51]
 (.cond (t 52)
 .skip
 (.exit 0)))
 (.seq (.block 1 (sr [mc 12 0]
 (.block 2 (.loop HE))))
 (rn [mv 53 11,ad 54 53 1,mv 11 54])))
abbrev HF:al:=
  (.seq (sr [mv 112 16,mv 113 8,ls 114 112 113]
  (.cond (t 114)
  .skip
  (.exit 6)))
  (.seq (.block 7 (.drawn [mv 117 14,mv 118 5,mv 119 16,mv 120 15,
 op 121 (.call 1952 false (fc 115) [(t 118),(t 119),(t 120)]) [1,2,3],mv 122 5,mv 123 16,op 124 (.bin .add (t 123) (ic 1)) [6],
 mv 125 15,op 126 (.call 2032 false (fc 115) [(t 122),(t 124),(t 125)]) [5,7,8,4],mv 127 13,op 128 (.call 2064 false (fc 114) [(t 121),(t 126),(t 127)]) [4,9,10,9],
 la 129 6 10,mv 130 8,mv 131 9,mv 132 16,
 mv 133 15,op 134 (.call 2160 false (fc 116) [(t 129),(t 130),(t 131),(t 132),(t 133)]) [12,13,14,15,16,11],la 135 6 10,mv 136 8,
 mv 137 9,mv 138 16,mv 139 15,op 140 (.bin .sub (t 139) (ic 1)) [22],
 op 141 (.call 2272 false (fc 116) [(t 135),(t 136),(t 137),(t 138),(t 140)]) [18,19,20,21,23,17],mv 142 13,op 143 (.call 2304 true (fc 113) [(t 117),(t 128),(t 134),(t 141),(t 142)]) [0,11,17,24,25,24],op 14 (.il 241 (t 143)) ([26,26]++rg 27)]))
  (rn [mv 115 16,ad 116 115 1,mv 16 116])))
abbrev Ct:al:=
 (.seq (sr [mv 107 15,mv 108 9,od 109 (.bin .leq (t 107) (t 108))]
 (.cond (t 109)
 .skip
 (.exit 4)))
 (.seq (.block 5 (sr [mc 16 0]
 (.block 6 (.loop HF))))
 (rn [mv 110 15,ad 111 110 1,mv 15 111])))
abbrev HG:al:=
  (.seq (sr [mv 149 18,mv 150 8,od 151 (.bin .leq (t 149) (t 150))]
  (.cond (t 151)
  .skip
  (.exit 10)))
  (.seq (.block 11 (.drawn [mv 154 14,mv 155 5,mv 156 18,mv 157 17,
 op 158 (.call 2544 false (fc 115) [(t 155),(t 156),(t 157)]) [1,2,3],mv 159 5,mv 160 18,mv 161 17,
 op 162 (.bin .add (t 161) (ic 1)) [7],op 163 (.call 2624 false (fc 115) [(t 159),(t 160),(t 162)]) [5,6,8,4],mv 164 13,op 165 (.call 2656 false (fc 114) [(t 158),(t 163),(t 164)]) [4,9,10,9],
 la 166 6 10,mv 167 8,mv 168 9,mv 169 18,
 op 170 (.bin .sub (t 169) (ic 1)) [15],mv 171 17,op 172 (.call 2768 false (fc 116) [(t 166),(t 167),(t 168),(t 170),(t 171)]) [12,13,14,16,17,11],la 173 6 10,
 mv 174 8,mv 175 9,mv 176 18,mv 177 17,
 op 178 (.call 2864 false (fc 116) [(t 173),(t 174),(t 175),(t 176),(t 177)]) [19,20,21,22,23,18],mv 179 13,op 180 (.call 2896 true (fc 113) [(t 154),(t 165),(t 172),(t 178),(t 179)]) [0,11,18,24,25,24],op 14 (.il 241 (t 180)) ([26,26]++rg 27)]))
  (rn [mv 152 18,ad 153 152 1,mv 18 153])))
abbrev Cu:al:=
 (.seq (sr [mv 144 17,mv 145 9,ls 146 144 145]
 (.cond (t 146)
 .skip
 (.exit 8)))
 (.seq (.block 9 (sr [mc 18 0]
 (.block 10 (.loop HG))))
 (rn [mv 147 17,ad 148 147 1,mv 17 148])))
def Cv:al:=
  (sr [od 2 (.move (.const (.lit 4 []))),od 3 (.move (.const (.lit 5 [])))]
  (sr [od 4 (.move (.const (.lit 1 []))),od 5 (.move (.const (.lit 1 []))),od 6 (.move (.const (.lit 1 [])))]
  (.seq (sr [mv 21 0,ln 22 21,od 23 (.bin .gtr (t 22) (ic 0))]
  (.cond (t 23)
  (rn [mv 24 0,od 25 (.indexAddr 1 (t 24) (ic 0)),ld 26 25,mv 4 26])
  .skip))
  (.seq (sr [mv 27 0,ln 28 27,od 29 (.bin .gtr (t 28) (ic 1))]
  (.cond (t 29)
  (rn [mv 30 0,od 31 (.indexAddr 1 (t 30) (ic 1)),ld 32 31,mv 5 32])
  .skip))
  (.seq (sr [mv 33 0,ln 34 33,od 35 (.bin .gtr (t 34) (ic 2))]
  (.cond (t 35)
  (rn [mv 36 0,od 37 (.indexAddr 1 (t 36) (ic 2)),ld 38 37,mv 6 38])
  .skip))
  (sr [mv 39 4,od 40 (.build [.lit 1 [],i0] [(0,1,(t 39))]),od 41 (.new 672 2 (t 40)),mv 7 41]
  (sr [mv 42 7,ca 43 704 85 [(t 42),(ic 3)],od 44 (.bin .add (ic 1) (t 43)),mv 8 44]
  (sr [mv 45 7,ca 46 752 85 [(t 45),(ic 2)],od 47 (.bin .add (ic 1) (t 46)),mv 9 47]
  (.seq (sr [mv 48 8,eq 49 48 3]
  (.cond (t 49)
  (rn [mc 9 1])
  .skip))
  (sr [od 10 (.new 176 6 (.const (.agg [i0,i0,i0,i0,i0,i0])))]
  (.seq (sr [mc 11 0]
  (.block 0 (.loop vz)))
  (sr [mv 104 6,od 105 (.build [.lit 1 [],i0] [(0,1,(t 104))]),od 106 (.new 1712 2 (t 105)),mv 13 106]
  (sr [od 14 (.bU 241 4)]
  (.seq (sr [mc 15 0]
  (.block 4 (.loop Ct)))
  (.seq (sr [mc 17 0]
  (.block 8 (.loop Cu)))
  (.seq (sr [mv 181 7,ca 182 2928 85 [(t 181),(ic 2)],eq 183 182 1]
  (.cond (t 183)
  (sr [mv 184 7,mv 185 8,ca 186 2992 85 [(t 184),(t 185)],mv 19 186]
  (sr [mv 187 7,mv 188 9,ca 189 3040 85 [(t 187),(t 188)],mv 20 189]
  (rn [mv 190 14,mv 191 19,od 192 (.bin .mul (ic 100) (t 191)),od 193 (.bin .add (ic 90) (t 192)),
 mv 194 20,od 195 (.bin .mul (ic 100) (t 194)),od 196 (.bin .add (ic 90) (t 195)),od 197 (.build [i0,i0] [(0,1,(t 193)),(1,1,(t 196))]),
 mv 198 19,mv 199 20,od 200 (.aR 3 2 (t 10) (t 198)),od 201 (.aR 2 1 (t 200) (t 199)),
 ld 202 201,mv 203 13,od 204 (.call 3280 true (fc 117) [(t 190),(t 197),(t 202),(t 203)]),od 14 (.il 241 (t 204))])))
  .skip))
  (sr [mv 205 14,mv 206 14,od 207 (.call 3328 true (fc 118) [(t 206)]),mv 2 205,
 mv 3 207]
  .ret)))))))))))))))))
def f83:aB:=⟨1,208,[],[.tmp 2,.tmp 3],Cv,none⟩
def MP:al:=
  (sr [od 4 (.move (.const (.lit 1 [])))]
  (.seq (sr [mv 5 1,mv 6 0,ln 7 6,od 8 (.bin .geq (t 5) (t 7))]
  (.cond (t 8)
  (sr [od 4 (.move (.const (.lit 1 [])))]
  .ret)
  .skip))
  (sr [mv 9 0,mv 10 1,od 11 (.indexAddr 1 (t 9) (t 10)),ld 12 11,
 mv 4 12]
  .ret)))
def f84:aB:=⟨2,13,[],[.tmp 4],MP,none⟩
def MQ:al:=
  (sr [mc 4 0]
  (.seq (.seq (.drawn [mv 5 0,op 6 (.nilCheck (t 5)) [0],op 7 (.fieldAddr 1 (t 6)) [1],op 8 (.load false 1 (t 7)) [2],
 mv 9 0,op 10 (.nilCheck (t 9)) [4],op 11 (.fieldAddr 0 (t 10)) [5],op 12 (.load false 1 (t 11)) [6],
 op 13 (.len (t 12)) [7],op 14 (.bin .geq (t 8) (t 13)) [3,8]])
  (.cond (t 14)
  (sr [mc 4 0]
  .ret)
  .skip))
  (sr [mv 15 0,od 16 (.nilCheck (t 15)),fa 17 1 16,ld 18 17,
 ad 19 18 1,od 20 (.nilCheck (t 15)),fa 21 1 20,ow (.store false 1 (t 21) (t 19))]
  (.seq (.drawn [mv 22 0,op 23 (.nilCheck (t 22)) [0],op 24 (.fieldAddr 0 (t 23)) [1],op 25 (.load false 1 (t 24)) [2],
 mv 26 0,op 27 (.nilCheck (t 26)) [4],op 28 (.fieldAddr 1 (t 27)) [5],op 29 (.load false 1 (t 28)) [6],
 op 30 (.bin .sub (t 29) (ic 1)) [7],op 31 (.indexAddr 1 (t 25) (t 30)) [3,8],op 32 (.load false 1 (t 31)) [9],mv 33 1,
 op 34 (.call 560 false (fc 93) [(t 32),(t 33)]) [10,11],op 4 (.move (t 34)) ([12,12]++rg 13)])
  .ret))))
def f85:aB:=⟨2,35,[some 2,none],[.tmp 4],MQ,none⟩
abbrev HH:al:=
  (.seq (sr [mv 15 6,od 16 (.bin .lss (t 15) (ic 3))]
  (.cond (t 16)
  .skip
  (.exit 2)))
  (.seq (.block 3 (sr [mv 19 3,ca 20 336 85 [(t 19),(ic 2)],eq 21 20 0]
  (.cond (t 21)
  (rn [mv 22 4,mv 23 6,mv 24 5,ca 25 416 120 [(t 23),(t 24)],
 mv 26 6,ad 27 26 1,mv 28 5,ca 29 480 120 [(t 27),(t 28)],
 mv 30 3,od 31 (.call 512 true (fc 119) [(t 22),(t 25),(t 29),(ic 0),(t 30)]),od 4 (.il 81 (t 31))])
  .skip)))
  (rn [mv 17 6,ad 18 17 1,mv 6 18])))
abbrev HI:al:=
 (.seq (sr [mv 11 5,od 12 (.bin .lss (t 11) (ic 2))]
 (.cond (t 12)
 .skip
 (.exit 0)))
 (.seq (.block 1 (sr [mc 6 0]
 (.block 2 (.loop HH))))
 (rn [mv 13 5,ad 14 13 1,mv 5 14])))
abbrev HJ:al:=
  (.seq (sr [mv 32 7,od 33 (.bin .lss (t 32) (ic 4)),mv 34 33,og 35 (.move (t 4)) 34 true,
 og 36 (.len (t 35)) 34 true,og 37 (.bin .lss (t 36) (ic 5)) 34 true,od 38 (.pick (t 34) (t 37) (.const (.bool false)))]
  (.cond (t 38)
  .skip
  (.exit 4)))
  (.seq (.block 5 (sr [mv 41 3,ca 42 688 85 [(t 41),(ic 2)],eq 43 42 0]
  (.cond (t 43)
  (rn [mv 44 4,mv 45 7,ca 46 752 120 [(t 45),(ic 0)],mv 47 7,
 ca 48 784 120 [(t 47),(ic 1)],mv 49 3,od 50 (.call 816 true (fc 119) [(t 44),(t 46),(t 48),(ic 0),(t 49)]),od 4 (.il 81 (t 50))])
  .skip)))
  (rn [mv 39 7,ad 40 39 1,mv 7 40])))
def MR:al:=
  (sr [od 2 (.move (.const (.lit 8 [])))]
  (sr [mv 8 0,od 9 (.build [.lit 1 [],i0] [(0,1,(t 8))]),od 10 (.new 176 2 (t 9)),mv 3 10]
  (sr [od 4 (.bU 81 8)]
  (.seq (sr [mc 5 0]
  (.block 0 (.loop HI)))
  (.seq (sr [mc 7 0]
  (.block 4 (.loop HJ)))
  (.seq (sr [mv 51 3,ca 52 848 85 [(t 51),(ic 3)],eq 53 52 0]
  (.cond (t 53)
  (rn [mv 54 4,ca 55 896 120 [(ic 0),(ic 0)],mv 56 3,ca 57 928 85 [(t 56),(ic 2)],
 od 58 (.bin .add (ic 2) (t 57)),ca 59 960 120 [(t 58),(ic 1)],mv 60 3,od 61 (.call 992 true (fc 119) [(t 54),(t 55),(t 59),(ic 1),(t 60)]),
 od 4 (.il 81 (t 61))])
  .skip))
  (.seq (sr [mv 62 3,ca 63 1024 85 [(t 62),(ic 4)],eq 64 63 0]
  (.cond (t 64)
  (rn [mv 65 4,ca 66 1072 120 [(ic 1),(ic 1)],ca 67 1088 120 [(ic 3),(ic 0)],mv 68 3,
 od 69 (.call 1120 true (fc 119) [(t 65),(t 66),(t 67),(ic (-1)),(t 68)]),od 4 (.il 81 (t 69))])
  .skip))
  (sr [mv 70 4,mv 2 70]
  .ret))))))))
def f86:aB:=⟨1,71,[],[.tmp 2],MR,none⟩
abbrev HK:al:=
  (.seq (sr [mv 18 8,mv 19 7,ls 20 18 19]
  (.cond (t 20)
  .skip
  (.exit 0)))
  (.seq (.block 1 (sr [mv 23 5,ca 24 400 85 [(t 23),(ic 10)],od 25 (.bin .add (ic 16) (t 24)),mv 9 25]
  (.seq (sr [mv 26 5,ca 27 448 85 [(t 26),(ic 2)],eq 28 27 1]
  (.cond (t 28)
  (rn [mv 29 9,od 30 (.un .neg (t 29)),mv 9 30])
  .skip))
  (sr [mv 31 6,ln 32 31,od 33 (.bin .add (ic 61) (t 32)),mv 34 5,
 ca 35 576 85 [(t 34),(ic 3)],od 36 (.bin .mul (ic 100) (t 35)),od 37 (.bin .add (ic 90) (t 36)),mv 38 9,
 od 39 (.bin .add (t 37) (t 38)),mv 40 5,ca 41 672 85 [(t 40),(ic 2)],od 42 (.bin .mul (ic 100) (t 41)),
 od 43 (.bin .add (ic 90) (t 42)),mv 44 5,ca 45 736 85 [(t 44),(ic 51)],od 46 (.bin .add (t 43) (t 45)),
 od 47 (.bin .sub (t 46) (ic 25)),od 48 (.build [i0,i0] [(0,1,(t 39)),(1,1,(t 47))]),mv 49 5,ca 50 816 85 [(t 49),(ic 60)],
 od 51 (.bin .add (ic 1) (t 50)),od 52 (.build [i0,i0,i0,.str [],.str [],i0,i0] [(0,1,(t 33)),(1,2,(t 48)),(5,1,(t 51))]),od 10 (.new 176 7 (.const (.agg [i0,i0,i0,.str [],.str [],i0,i0]))),ow (.store true 7 (t 10) (t 52))]
  (sr [od 53 (.buildSlice 864 1 (.str []) 3 [(0,(.const (.str [116,114,101,101]))),(1,(.const (.str [116,114,101,101]))),(2,(.const (.str [115,104,111,112])))]),mv 54 5,ca 55 896 85 [(t 54),(ic 3)],od 56 (.indexAddr 1 (t 53) (t 55)),
 ld 57 56,fa 58 3 10,ow (.store false 1 (t 58) (t 57))]
  (sr [od 59 (.buildSlice 960 1 (.str []) 5 [(0,(.const (.str []))),(1,(.const (.str []))),(2,(.const (.str [71,97,116,101]))),(3,(.const (.str [79,97,107]))),(4,(.const (.str [84,104,101,32,87,101,108,108])))]),mv 60 5,ca 61 992 85 [(t 60),(ic 5)],od 62 (.indexAddr 1 (t 59) (t 61)),
 ld 63 62,fa 64 4 10,ow (.store false 1 (t 64) (t 63))]
  (sr [fa 66 0 2,ld 67 66,fa 68 1 10,la 69 2 68,
 ca 70 1136 121 [(t 67),(t 69)],mv 65 70,xt 71 65 0,xt 72 65 1,
 mv 11 71,mv 12 72]
  (sr [la 73 4 2,mv 74 11,ca 75 1216 122 [(t 73),(t 74)],fa 76 6 10,
 ow (.store false 1 (t 76) (t 75))]
  (sr [mv 77 12,mv 78 77,og 79 (.fieldAddr 6 (t 10)) 78 true,og 80 (.load false 1 (t 79)) 78 true,
 og 81 (.bin .gtr (t 80) (ic 0)) 78 true,od 82 (.pick (t 78) (t 81) (.const (.bool false)))]
  (.cond (t 82)
  (rn [mv 83 6,la 84 7 10,od 85 (.buildSlice 1376 7 (.agg [i0,i0,i0,.str [],.str [],i0,i0]) 1 [(0,(t 84))]),od 86 (.append 113 7 1927910799188 (t 83) (t 85)),
 od 6 (.il 113 (t 86))])
  .skip))))))))))
  (rn [mv 21 8,ad 22 21 1,mv 8 22])))
def MS:al:=
 (sr [od 2 (.new 48 4 (t 0)),od 4 (.bU 81 7)]
 (sr [mv 13 1,od 14 (.build [.lit 1 [],i0] [(0,1,(t 13))]),od 15 (.new 256 2 (t 14)),mv 5 15]
 (sr [od 6 (.bU 113 7)]
 (sr [mv 16 5,ca 17 288 85 [(t 16),(ic 7)],mv 7 17]
 (.seq (sr [mc 8 0]
 (.block 0 (.loop HK)))
 (sr [mv 87 6,mv 4 87]
 .ret))))))
def f87:aB:=⟨2,88,[],[.tmp 4],MS,none⟩
abbrev HL:al:=
  (.seq (sr [mv 17 4,fa 18 0 1,ld 19 18,ln 20 19,
 ls 21 17 20]
  (.cond (t 21)
  .skip
  (.exit 0)))
  (.seq (.block 1 (sr [fa 24 0 1,ld 25 24,mv 26 4,od 27 (.indexAddr 4 (t 25) (t 26)),
 la 28 4 27,od 5 (.new 96 4 (.const (.agg [i0,.lit 2 [],i0,i0]))),ow (.store true 4 (t 5) (t 28))]
  (sr [fa 29 1 5,ld 30 29,ca 31 512 130 [(t 30)],fa 32 1 5,
 ow (.store false 1 (t 32) (t 31))]
  (rn [fa 33 0 3,ld 34 33,la 35 4 5,od 36 (.buildSlice 592 4 (.agg [i0,.nils,i0,i0]) 1 [(0,(t 35))]),
 od 37 (.append 66 4 2872193639704 (t 34) (t 36)),fa 38 0 3,ow (.store false 1 (t 38) (t 37))]))))
  (rn [mv 22 4,ad 23 22 1,mv 4 23])))
abbrev HM:al:=
  (.seq (sr [mv 39 6,fa 40 2 1,ld 41 40,ln 42 41,
 ls 43 39 42]
  (.cond (t 43)
  .skip
  (.exit 2)))
  (.seq (.block 3 (sr [fa 46 2 1,ld 47 46,mv 48 6,od 49 (.indexAddr 8 (t 47) (t 48)),
 la 50 8 49,od 7 (.new 128 8 (.const (.agg [i0,.lit 2 [],i0,.str [],.str [],.bool false,i0,i0]))),ow (.store true 8 (t 7) (t 50))]
  (sr [fa 51 1 7,ld 52 51,ca 53 864 130 [(t 52)],fa 54 1 7,
 ow (.store false 1 (t 54) (t 53))]
  (rn [fa 55 2 3,ld 56 55,la 57 8 7,od 58 (.buildSlice 944 8 (.agg [i0,.nils,i0,.str [],.str [],.bool false,i0,i0]) 1 [(0,(t 57))]),
 od 59 (.append 68 8 1450901941607 (t 56) (t 58)),fa 60 2 3,ow (.store false 1 (t 60) (t 59))]))))
  (rn [mv 44 6,ad 45 44 1,mv 6 45])))
def MT:al:=
  (sr [od 1 (.new 32 4 (t 0)),od 2 (.new 48 4 (.const (.agg [.lit 4 [],.lit 5 [],.lit 8 [],.lit 7 []])))]
  (.seq (.drawn [od 8 (.buildSlice 144 5 (.agg [i0,.str [],.str [],i0,i0]) 0 []),fa 9 1 1,op 10 (.load false 1 (t 9)) [1],op 11 (.append 192 5 2469078742875 (t 8) (t 10)) [0,2],
 od 12 (.buildSlice 208 7 (.agg [i0,i0,i0,.str [],.str [],i0,i0]) 0 []),fa 13 3 1,op 14 (.load false 1 (t 13)) [5],op 15 (.append 256 7 1927910799188 (t 12) (t 14)) [4,6,3],
 op 16 (.build [.nils,.lit 5 [],.nils,.lit 7 []] [(1,1,(t 11)),(3,1,(t 15))]) [3,7],od 3 (.new 64 4 (.const (.agg [.nils,.lit 5 [],.nils,.lit 7 []]))),⟨none,.store true 4 (t 3) (t 16),none,([9,8,7]++rg 10)⟩])
  (.seq (sr [mc 4 0]
  (.block 0 (.loop HL)))
  (.seq (sr [mc 6 0]
  (.block 2 (.loop HM)))
  (sr [la 61 4 3,ow (.store true 4 (t 2) (t 61))]
  .ret)))))
def f92:aB:=⟨1,62,[],[.cell 2 true 4],MT,none⟩
def MU:al:=
  (sr [mc 4 0]
  (sr [mv 5 0,mv 6 1,od 7 (.bin .rem (t 5) (t 6)),mv 8 1,
 od 9 (.bin .add (t 7) (t 8)),mv 10 1,od 11 (.bin .rem (t 9) (t 10)),mv 4 11]
  .ret))
def f93:aB:=⟨2,12,[],[.tmp 4],MU,none⟩
abbrev HN:al:=
  (.seq (sr [mv 18 9,mv 19 0,ln 20 19,ls 21 18 20]
  (.cond (t 21)
  .skip
  (.exit 0)))
  (.seq (.block 1 (sr [mv 24 0,mv 25 9,od 26 (.indexAddr 4 (t 24) (t 25)),la 27 4 26,
 od 10 (.new 176 4 (.const (.agg [i0,.lit 2 [],i0,i0]))),ow (.store true 4 (t 10) (t 27))]
  (sr [od 28 (.fC 9 16000464 2 (.agg [i0,i0]) 0 []),fa 29 1 10,ld 30 29,od 31 (.append 512 2 8278675785407 (t 28) (t 30)),
 fa 32 1 10,ow (.store false 1 (t 32) (t 31))]
  (rn [mv 33 8,la 34 4 10,od 35 (.fD 576 4 (.agg [i0,.nils,i0,i0]) 1 [(0,(t 34))]),od 36 (.kE 145 4 2872193639704 (t 33) (t 35)),
 od 8 (.il 145 (t 36))]))))
  (rn [mv 22 9,ad 23 22 1,mv 9 23])))
abbrev HO:al:=
  (.seq (sr [mv 249 17,mv 250 8,mv 251 16,od 252 (.indexAddr 4 (t 250) (t 251)),
 fa 253 1 252,ld 254 253,ln 255 254,ls 256 249 255]
  (.cond (t 256)
  .skip
  (.exit 5)))
  (.seq (.block 6 (.drawn [mv 259 8,mv 260 16,op 261 (.indexAddr 4 (t 259) (t 260)) [0,1],op 262 (.fieldAddr 1 (t 261)) [2],
 op 263 (.load false 1 (t 262)) [3],mv 264 17,mv 265 8,mv 266 16,
 op 267 (.indexAddr 4 (t 265) (t 266)) [6,7],op 268 (.fieldAddr 1 (t 267)) [8],op 269 (.load false 1 (t 268)) [9],mv 270 17,
 op 271 (.indexAddr 2 (t 269) (t 270)) [10,11],op 272 (.fieldAddr 1 (t 271)) [12],op 273 (.load false 1 (t 272)) [13],mv 274 12,
 op 275 (.bin .rem (t 274) (ic 2)) [15],op 276 (.bin .mul (t 275) (ic 39)) [16],op 277 (.bin .add (ic 1) (t 276)) [17],op 278 (.bin .mul (t 273) (t 277)) [14,18],
 op 279 (.indexAddr 2 (t 263) (t 264)) ([4,5]++rg 20),op 280 (.fieldAddr 1 (t 279)) ([20]++rg 20),⟨none,.store false 1 (t 280) (t 278),none,([21,19]++rg 20)⟩]))
  (rn [mv 257 17,ad 258 257 1,mv 17 258])))
abbrev HP:al:=
 (.seq (sr [mv 243 16,mv 244 8,ln 245 244,ls 246 243 245]
 (.cond (t 246)
 .skip
 (.exit 3)))
 (.seq (.block 4 (sr [mc 17 0]
 (.block 5 (.loop HO))))
 (rn [mv 247 16,ad 248 247 1,mv 16 248])))
def MV:al:=
  (sr [od 5 (.new 96 3 (t 2)),od 6 (.deep (.const (.nils))),od 7 (.bU 129 5)]
  (sr [od 8 (.bU 145 4)]
  (.seq (sr [mc 9 0]
  (.block 0 (.loop HN)))
  (sr [od 37 (.buildSlice 608 5 (.agg [i0,.str [],.str [],i0,i0]) 0 []),mv 38 1,od 39 (.append 640 5 2469078742875 (t 37) (t 38)),od 11 (.il 193 (t 39))]
  (.seq (sr [mv 40 8,ln 41 40,eq 42 41 0]
  (.cond (t 42)
  (sr [mv 43 8,mv 44 11,od 6 (.deep (t 43)),mv 7 44]
  .ret)
  .skip))
  (sr [od 45 (.aR 3 1 (t 5) (ic 1)),ld 46 45,ca 47 768 93 [(t 46),(ic 40)],mv 12 47]
  (sr [od 48 (.aR 3 1 (t 5) (ic 2)),ld 49 48,mv 50 8,ln 51 50,
 ca 52 848 93 [(t 49),(t 51)],mv 13 52]
  (sr [mv 53 8,mv 54 13,od 55 (.indexAddr 4 (t 53) (t 54)),mv 14 55]
  (.seq (sr [od 56 (.aR 3 1 (t 5) (ic 0)),ld 57 56,ca 58 944 93 [(t 57),(ic 13)]]
  (.block 2 (sr [eq 60 58 0,mv 59 60]
  (.cond (t 59)
  (rn [mv 61 14,mv 62 12,od 63 (.bin .sub (t 62) (ic 1)),od 64 (.nilCheck (t 61)),
 fa 65 0 64,ow (.store false 1 (t 65) (t 63))])
  (sr [eq 67 58 1,mv 66 67]
  (.cond (t 66)
  (rn [mv 68 14,mv 69 12,od 70 (.nilCheck (t 68)),fa 71 2 70,
 ow (.store false 1 (t 71) (t 69))])
  (sr [eq 73 58 2,mv 72 73]
  (.cond (t 72)
  (rn [mv 74 14,od 75 (.buildSlice 1216 1 (i0) 4 [(0,(ic 0)),(1,(ic 21)),(2,(ic 22)),(3,(ic 28))]),mv 76 12,od 77 (.bin .rem (t 76) (ic 4)),
 od 78 (.indexAddr 1 (t 75) (t 77)),ld 79 78,od 80 (.nilCheck (t 74)),fa 81 3 80,
 ow (.store false 1 (t 81) (t 79))])
  (sr [eq 83 58 3,mv 82 83]
  (.cond (t 82)
  (.drawn [mv 84 14,mv 85 14,mv 86 14,op 87 (.nilCheck (t 86)) [2],
 op 88 (.fieldAddr 3 (t 87)) [3],op 89 (.load false 1 (t 88)) [4],mv 90 14,op 91 (.nilCheck (t 90)) [6],
 op 92 (.fieldAddr 2 (t 91)) [7],op 93 (.load false 1 (t 92)) [8],op 94 (.nilCheck (t 84)) [0,0,2,3,4,5,9],op 95 (.fieldAddr 2 (t 94)) [10,0,2,3,4,5,9],
 ⟨none,.store false 1 (t 95) (t 89),none,[11,5,0,2,3,4,5,9]⟩,op 96 (.nilCheck (t 85)) ([1]++rg 13),op 97 (.fieldAddr 3 (t 96)) ([13]++rg 13),⟨none,.store false 1 (t 97) (t 93),none,([14,9,12]++rg 13)⟩])
  (sr [eq 99 58 4,mv 98 99]
  (.cond (t 98)
  (sr [mv 100 14,od 101 (.nilCheck (t 100)),fa 102 1 101,ld 103 102,
 ln 104 103,od 105 (.bin .gtr (t 104) (ic 0))]
  (.cond (t 105)
  (.drawn [mv 106 14,op 107 (.nilCheck (t 106)) [0],op 108 (.fieldAddr 1 (t 107)) [1],op 109 (.load false 1 (t 108)) [2],
 mv 110 12,mv 111 14,op 112 (.nilCheck (t 111)) [5],op 113 (.fieldAddr 1 (t 112)) [6],
 op 114 (.load false 1 (t 113)) [7],op 115 (.len (t 114)) [8],op 116 (.bin .rem (t 110) (t 115)) [4,9],mv 117 14,
 op 118 (.nilCheck (t 117)) [11],op 119 (.fieldAddr 1 (t 118)) [12],op 120 (.load false 1 (t 119)) [13],mv 121 12,
 mv 122 14,op 123 (.nilCheck (t 122)) [16],op 124 (.fieldAddr 1 (t 123)) [17],op 125 (.load false 1 (t 124)) [18],
 op 126 (.len (t 125)) [19],op 127 (.bin .rem (t 121) (t 126)) [15,20],op 128 (.indexAddr 2 (t 120) (t 127)) [14,21],op 129 (.fieldAddr 0 (t 128)) [22],
 op 130 (.load false 1 (t 129)) [23],mv 131 12,op 132 (.bin .mul (ic 3) (t 131)) [25],op 133 (.bin .add (t 130) (t 132)) [24,26],
 op 134 (.bin .sub (t 133) (ic 50)) [27],op 135 (.indexAddr 2 (t 109) (t 116)) ([3,10]++rg 29),op 136 (.fieldAddr 0 (t 135)) ([29]++rg 29),⟨none,.store false 1 (t 136) (t 134),none,([30,28]++rg 29)⟩])
  .skip))
  (sr [eq 138 58 5,mv 137 138]
  (.cond (t 137)
  (sr [mv 139 14,od 140 (.nilCheck (t 139)),fa 141 1 140,ld 142 141,
 ln 143 142,od 144 (.bin .gtr (t 143) (ic 0))]
  (.cond (t 144)
  (.drawn [mv 145 14,op 146 (.nilCheck (t 145)) [0],op 147 (.fieldAddr 1 (t 146)) [1],op 148 (.load false 1 (t 147)) [2],
 mv 149 12,mv 150 14,op 151 (.nilCheck (t 150)) [5],op 152 (.fieldAddr 1 (t 151)) [6],
 op 153 (.load false 1 (t 152)) [7],op 154 (.len (t 153)) [8],op 155 (.bin .rem (t 149) (t 154)) [4,9],mv 156 12,
 op 157 (.bin .rem (t 156) (ic 2)) [11],op 158 (.bin .add (ic 16384) (t 157)) [12],mv 159 12,op 160 (.build [i0,i0] [(0,1,(t 158)),(1,1,(t 159))]) [13,14],
 op 161 (.indexAddr 2 (t 148) (t 155)) ([3,10]++rg 16),⟨none,.store true 2 (t 161) (t 160),none,([16,15]++rg 16)⟩])
  .skip))
  (sr [eq 163 58 6,mv 162 163]
  (.cond (t 162)
  (.drawn [mv 164 14,mv 165 14,op 166 (.nilCheck (t 165)) [1],op 167 (.fieldAddr 1 (t 166)) [2],
 op 168 (.load false 1 (t 167)) [3],mv 169 12,mv 170 14,op 171 (.nilCheck (t 170)) [6],
 op 172 (.fieldAddr 1 (t 171)) [7],op 173 (.load false 1 (t 172)) [8],op 174 (.len (t 173)) [9],op 175 (.min [(t 169),(t 174)]) [5,10],
 op 176 (.slice 2 (t 168) none (some (t 175)) none) [4,11],op 177 (.nilCheck (t 164)) ([0]++rg 13),op 178 (.fieldAddr 1 (t 177)) ([13]++rg 13),⟨none,.store false 1 (t 178) (t 176),none,([14,12]++rg 13)⟩])
  (sr [eq 180 58 7,mv 179 180]
  (.cond (t 179)
  (.drawn [mv 181 8,mv 182 13,op 183 (.slice 4 (t 181) none (some (t 182)) none) [0,1],mv 184 8,
 mv 185 13,op 186 (.bin .add (t 185) (ic 1)) [4],op 187 (.slice 4 (t 184) (some (t 186)) none none) [3,5],op 188 (.kE 3024 4 2872193639704 (t 183) (t 187)) [2,6],
 op 8 (.il 145 (t 188)) ([7,7]++rg 8)])
  (sr [eq 190 58 8,mv 189 190]
  (.cond (t 189)
  (rn [mv 191 8,mv 192 13,mv 193 14,od 194 (.nilCheck (t 193)),
 la 195 4 194,ca 196 3152 131 [(t 195)],od 197 (.indexAddr 4 (t 191) (t 192)),ow (.store true 4 (t 197) (t 196))])
  (sr [eq 199 58 9,mv 198 199]
  (.cond (t 198)
  (rn [mv 200 11,mv 201 12,od 202 (.bin .rem (t 201) (ic 4)),mv 203 11,
 ln 204 203,od 205 (.min [(t 202),(t 204)]),od 206 (.slice 5 (t 200) none (some (t 205)) none),mv 11 206])
  (sr [eq 208 58 10,mv 207 208]
  (.cond (t 207)
  (rn [mv 209 11,mv 210 12,od 211 (.bin .sub (t 210) (ic 1)),od 212 (.build [i0,.str [],.str [],i0,i0] [(0,1,(t 211))]),
 od 213 (.buildSlice 3424 5 (.agg [i0,.str [],.str [],i0,i0]) 1 [(0,(t 212))]),od 214 (.append 193 5 2469078742875 (t 209) (t 213)),od 11 (.il 193 (t 214))])
  (sr [eq 216 58 11,mv 215 216]
  (.cond (t 215)
  (sr [mv 217 12,od 218 (.bin .mul (ic 10) (t 217)),od 219 (.build [i0,i0] [(0,1,(t 218)),(1,1,(ic 90))]),od 15 (.new 256 2 (.const (.agg [i0,i0]))),
 ow (.store true 2 (t 15) (t 219))]
  (.drawn [mv 220 8,mv 221 12,op 222 (.bin .add (ic 50) (t 221)) [1],la 223 2 15,
 fa 224 0 15,op 225 (.load false 1 (t 224)) [4],op 226 (.bin .add (t 225) (ic 5)) [5],op 227 (.build [i0,i0] [(0,1,(t 226)),(1,1,(ic 90))]) [6],
 fa 228 0 15,op 229 (.load false 1 (t 228)) [8],op 230 (.build [i0,i0] [(0,1,(t 229)),(1,1,(ic 95))]) [9],la 231 2 15,
 op 232 (.buildSlice 3728 2 (.agg [i0,i0]) 4 [(0,(t 223)),(1,(t 227)),(2,(t 230)),(3,(t 231))]) [3,7,10,11],od 233 (.buildSlice 3744 1 (i0) 3 [(0,(ic 0)),(1,(ic 22)),(2,(ic 28))]),mv 234 12,op 235 (.bin .rem (t 234) (ic 3)) [14],
 op 236 (.indexAddr 1 (t 233) (t 235)) [13,15],op 237 (.load false 1 (t 236)) [16],op 238 (.build [i0,.lit 2 [],i0,i0] [(0,1,(t 222)),(1,1,(t 232)),(2,1,(ic 21)),(3,1,(t 237))]) [2,12,17],op 239 (.buildSlice 3840 4 (.agg [i0,.nils,i0,i0]) 1 [(0,(t 238))]) [18],
 op 240 (.append 145 4 2872193639704 (t 220) (t 239)) [0,19],op 8 (.il 145 (t 240)) ([20,20]++rg 21)]))
  (sr [eq 242 58 12,mv 241 242]
  (.cond (t 241)
  (sr [mc 16 0]
  (.block 3 (.loop HP)))
  .skip))))))))))))))))))))))))))))
  (sr [mv 281 8,mv 282 11,od 6 (.deep (t 281)),mv 7 282]
  .ret))))))))))
def f94:aB:=⟨3,283,[],[.tmp 6,.tmp 7],MV,none⟩
def MW:al:=
  (sr [od 2 (.move (.const (.str [])))]
  (sr [od 3 (.buildSlice 64 1 (.str []) 10 [(0,(.const (.str []))),(1,(.const (.str [77,111,111,114]))),(2,(.const (.str [71,97,116,101]))),(3,(.const (.str [120,32,121]))),(4,(.const (.str [32,120]))),(5,(.const (.str [120,32]))),(6,(.const (.str [97,34,98]))),(7,(.const (.str [97,98,99,100,101,102,103,104,105,106,107,108,109,110,111,112,113,114,115,116,117,118,119,120,121]))),(8,(.const (.str [65]))),(9,(.const (.str [31])))]),mv 4 0,od 5 (.bin .rem (t 4) (ic 10)),od 6 (.indexAddr 1 (t 3) (t 5)),
 ld 7 6,mv 2 7]
  .ret))
def f95:aB:=⟨1,8,[],[.tmp 2],MW,none⟩
def HQ:al:=
  (sr [od 1 (.new 32 2 (t 0)),mc 2 0]
  (sr [fa 3 0 1,ld 4 3,fa 5 0 1,ld 6 5,
 od 7 (.bin .mul (t 4) (t 6)),fa 8 1 1,ld 9 8,fa 10 1 1,
 ld 11 10,od 12 (.bin .mul (t 9) (t 11)),od 13 (.bin .add (t 7) (t 12)),mv 2 13]
  .ret))
def HR:aB:=⟨1,14,[],[.tmp 2],HQ,none⟩
def HS:al:=
 (sr [mc 2 0]
 (.seq (sr [mv 3 0,od 4 (.bin .lss (t 3) (ic 0))]
 (.cond (t 4)
 (sr [mc 2 0]
 .ret)
 .skip))
 (sr [mv 5 0,ca 6 112 27 [(t 5)],od 7 (.min [(t 6),(ic 1024)]),mv 2 7]
 .ret)))
def HT:aB:=⟨1,8,[],[.tmp 2],HS,none⟩
def HU:al:=
  (sr [od 4 (.new 80 4 (.const (.agg [i0,i0,i0,.lit 1 []])))]
  (sr [mv 5 0,mv 6 1,ca 7 128 429 [(t 6)],mv 8 1,
 ca 9 160 430 [(t 8)],od 10 (.build [i0,i0,i0,.lit 1 []] [(0,1,(t 5)),(1,1,(t 7)),(2,1,(t 9))]),ow (.store true 4 (t 4) (t 10))]
  .ret))
def HV:aB:=⟨2,11,[],[.cell 4 true 4],HU,none⟩
def HW:al:=
  (sr [od 1 (.new 32 5 (t 0)),od 2 (.new 48 9 (.const (.agg [i0,.str [],.str [],i0,i0,.bool false,i0,i0,i0])))]
  (sr [fa 3 1 1,ld 4 3,fa 5 2 1,ld 6 5,
 fa 7 3 1,ld 8 7,od 9 (.build [i0,.str [],.str [],i0,i0,.bool false,i0,i0,i0] [(0,1,(ic 1)),(1,1,(t 4)),(2,1,(t 6)),(3,1,(t 8))]),ow (.store true 9 (t 2) (t 9))]
  .ret))
def HX:aB:=⟨1,10,[],[.cell 2 true 9],HW,none⟩
def HY:al:=
  (sr [od 1 (.new 32 8 (t 0)),od 2 (.new 48 9 (.const (.agg [i0,.str [],.str [],i0,i0,.bool false,i0,i0,i0])))]
  (sr [fa 3 3 1,ld 4 3,fa 5 4 1,ld 6 5,
 fa 7 6 1,ld 8 7,fa 9 2 1,ld 10 9,
 fa 11 5 1,ld 12 11,od 13 (.build [i0,.str [],.str [],i0,i0,.bool false,i0,i0,i0] [(0,1,(ic 2)),(1,1,(t 4)),(2,1,(t 6)),(3,1,(t 8)),(4,1,(t 10)),(5,1,(t 12))]),ow (.store true 9 (t 2) (t 13))]
  .ret))
def HZ:aB:=⟨1,14,[],[.cell 2 true 9],HY,none⟩
def H0:al:=
  (sr [od 1 (.new 32 7 (t 0)),od 2 (.new 48 9 (.const (.agg [i0,.str [],.str [],i0,i0,.bool false,i0,i0,i0])))]
  (sr [fa 3 3 1,ld 4 3,fa 5 4 1,ld 6 5,
 fa 7 5 1,ld 8 7,od 9 (.build [i0,.str [],.str [],i0,i0,.bool false,i0,i0,i0] [(0,1,(ic 3)),(1,1,(t 4)),(2,1,(t 6)),(3,1,(t 8))]),ow (.store true 9 (t 2) (t 9))]
  .ret))
def H2:aB:=⟨1,10,[],[.cell 2 true 9],H0,none⟩
def H3:al:=
  (sr [od 4 (.new 80 4 (.const (.agg [i0,i0,i0,.lit 1 []])))]
  (sr [mv 5 1,ca 6 112 463 [(t 5)]]
  (sr [mv 7 0,mv 8 1,ca 9 160 464 [(t 8)],od 10 (.build [i0,i0,i0,.lit 1 []] [(0,1,(t 7)),(3,1,(t 9))]),
 ow (.store true 4 (t 4) (t 10))]
  .ret)))
def H4:aB:=⟨2,11,[none,some 1],[.cell 4 true 4],H3,none⟩
def H5:al:=
  (sr [od 1 (.new 32 7 (t 0)),od 2 (.move (.const (.bool false)))]
  (.seq (sr [fa 4 2 1,fa 5 0 4,ld 6 5,fa 7 2 1,
 fa 8 1 7,ld 9 8,od 10 (.max [(t 6),(t 9)]),od 11 (.bin .gtr (t 10) (ic 1024)),
 mv 12 11,og 13 (.fieldAddr 2 (t 1)) 12 false,og 14 (.fieldAddr 0 (t 13)) 12 false,og 15 (.load false 1 (t 14)) 12 false,
 og 16 (.fieldAddr 2 (t 1)) 12 false,og 17 (.fieldAddr 1 (t 16)) 12 false,og 18 (.load false 1 (t 17)) 12 false,og 19 (.min [(t 15),(t 18)]) 12 false,
 og 20 (.bin .lss (t 19) (ic (-1024))) 12 false,od 21 (.pick (t 12) (.const (.bool true)) (t 20))]
  (.cond (t 21)
  (sr [od 2 (.move (.const (.bool false)))]
  .ret)
  .skip))
  (sr [fa 22 2 1,la 23 2 22,ca 24 400 461 [(t 23)],mv 3 24]
  (sr [mv 25 3,od 26 (.bin .gtr (t 25) (ic 0)),mv 27 26,og 28 (.move (t 3)) 27 true,
 og 29 (.bin .leq (t 28) (ic 1048576)) 27 true,od 30 (.pick (t 27) (t 29) (.const (.bool false))),mv 31 30,og 32 (.fieldAddr 6 (t 1)) 31 true,
 og 33 (.load false 1 (t 32)) 31 true,og 34 (.bin .geq (t 33) (ic 0)) 31 true,od 35 (.pick (t 31) (t 34) (.const (.bool false))),mv 36 35,
 og 37 (.fieldAddr 6 (t 1)) 36 true,og 38 (.load false 1 (t 37)) 36 true,og 39 (.bin .leq (t 38) (ic 23)) 36 true,od 40 (.pick (t 36) (t 39) (.const (.bool false))),
 mv 2 40]
  .ret))))
def H6:aB:=⟨1,41,[],[.tmp 2],H5,none⟩
def H7:al:=
  (sr [od 1 (.new 32 5 (t 0)),od 2 (.new 48 9 (.const (.agg [i0,.str [],.str [],i0,i0,.bool false,i0,i0,i0])))]
  (sr [fa 3 1 1,ld 4 3,fa 5 2 1,ld 6 5,
 fa 7 3 1,ld 8 7,od 9 (.build [i0,.str [],.str [],i0,i0,.bool false,i0,i0,i0] [(0,1,(ic 1)),(1,1,(t 4)),(2,1,(t 6)),(3,1,(t 8))]),ow (.store true 9 (t 2) (t 9))]
  .ret))
def H8:aB:=⟨1,10,[],[.cell 2 true 9],H7,none⟩
def H9:al:=
  (sr [od 1 (.new 32 8 (t 0)),od 2 (.new 48 9 (.const (.agg [i0,.str [],.str [],i0,i0,.bool false,i0,i0,i0])))]
  (sr [fa 3 3 1,ld 4 3,fa 5 4 1,ld 6 5,
 fa 7 6 1,ld 8 7,fa 9 2 1,ld 10 9,
 fa 11 5 1,ld 12 11,od 13 (.build [i0,.str [],.str [],i0,i0,.bool false,i0,i0,i0] [(0,1,(ic 2)),(1,1,(t 4)),(2,1,(t 6)),(3,1,(t 8)),(4,1,(t 10)),(5,1,(t 12))]),ow (.store true 9 (t 2) (t 13))]
  .ret))
def Ia:aB:=⟨1,14,[],[.cell 2 true 9],H9,none⟩
def Ib:al:=
  (sr [od 1 (.new 32 7 (t 0)),od 2 (.new 48 9 (.const (.agg [i0,.str [],.str [],i0,i0,.bool false,i0,i0,i0])))]
  (sr [fa 3 3 1,ld 4 3,fa 5 4 1,ld 6 5,
 fa 7 5 1,ld 8 7,od 9 (.build [i0,.str [],.str [],i0,i0,.bool false,i0,i0,i0] [(0,1,(ic 3)),(1,1,(t 4)),(2,1,(t 6)),(3,1,(t 8))]),ow (.store true 9 (t 2) (t 9))]
  .ret))
def Ic:aB:=⟨1,10,[],[.cell 2 true 9],Ib,none⟩
abbrev Ey:al:=
  (.seq (sr [mv 4 3,od 5 (.bin .lss (t 4) (ic 1024)),mv 6 5,og 7 (.move (t 3)) 6 true,
 og 8 (.bin .add (t 7) (ic 1)) 6 true,og 9 (.move (t 3)) 6 true,og 10 (.bin .add (t 9) (ic 1)) 6 true,og 11 (.bin .mul (t 8) (t 10)) 6 true,
 og 12 (.move (t 0)) 6 true,og 13 (.bin .leq (t 11) (t 12)) 6 true,od 14 (.pick (t 6) (t 13) (.const (.bool false)))]
  (.cond (t 14)
  .skip
  (.exit 0)))
  (.block 1 (rn [mv 15 3,ad 16 15 1,mv 3 16])))
def Ie:al:=
 (sr [mc 2 0]
 (sr [mc 3 0]
 (.seq (.block 0 (.loop Ey))
 (sr [mv 17 3,mv 2 17]
 .ret))))
def Ig:aB:=⟨1,18,[],[.tmp 2],Ie,none⟩
def Ih:al:=
  (sr [od 1 (.new 32 2 (t 0)),mc 2 0]
  (sr [fa 3 0 1,ld 4 3,fa 5 0 1,ld 6 5,
 od 7 (.bin .mul (t 4) (t 6)),fa 8 1 1,ld 9 8,fa 10 1 1,
 ld 11 10,od 12 (.bin .mul (t 9) (t 11)),od 13 (.bin .add (t 7) (t 12)),mv 2 13]
  .ret))
def Ii:aB:=⟨1,14,[],[.tmp 2],Ih,none⟩
abbrev Ez:al:=
  (.seq (sr [mv 8 5,od 9 (.bin .gtr (t 8) (ic 0)),mv 10 9,og 11 (.move (t 0)) 10 true,
 og 12 (.move (t 5)) 10 true,og 13 (.bin .sub (t 12) (ic 1)) 10 true,og 14 (.indexAddr 1 (t 11) (t 13)) 10 true,og 15 (.load false 1 (t 14)) 10 true,
 og 16 (.move (t 1)) 10 true,og 17 (.bin .geq (t 15) (t 16)) 10 true,od 18 (.pick (t 10) (t 17) (.const (.bool false)))]
  (.cond (t 18)
  .skip
  (.exit 0)))
  (.block 1 (rn [mv 19 5,od 20 (.bin .sub (t 19) (ic 1)),mv 5 20])))
def Ij:al:=
  (sr [od 4 (.move (.const (.lit 1 [])))]
  (sr [mv 6 0,ln 7 6,mv 5 7]
  (.seq (.block 0 (.loop Ez))
  (.seq (sr [mv 21 5,mv 22 0,ln 23 22,ls 24 21 23,
 mv 25 24,og 26 (.move (t 0)) 25 true,og 27 (.move (t 5)) 25 true,og 28 (.indexAddr 1 (t 26) (t 27)) 25 true,
 og 29 (.load false 1 (t 28)) 25 true,og 30 (.move (t 1)) 25 true,og 31 (.bin .eql (t 29) (t 30)) 25 true,od 32 (.pick (t 25) (t 31) (.const (.bool false)))]
  (.cond (t 32)
  (sr [mv 33 0,mv 4 33]
  .ret)
  .skip))
  (.seq (.drawn [od 34 (.buildSlice 560 1 (.str []) 0 []),mv 35 0,mv 36 5,op 37 (.slice 1 (t 35) none (some (t 36)) none) [1,2],
 op 38 (.append 624 1 8278675785407 (t 34) (t 37)) [0,3],mv 39 1,op 40 (.buildSlice 656 1 (.str []) 1 [(0,(t 39))]) [5],op 41 (.append 672 1 8278675785407 (t 38) (t 40)) [4,6,4],
 mv 42 0,mv 43 5,op 44 (.slice 1 (t 42) (some (t 43)) none none) [8,9],op 45 (.append 736 1 8278675785407 (t 41) (t 44)) [7,10,7],
 op 4 (.move (t 45)) ([11,11]++rg 12)])
  .ret)))))
def Ik:aB:=⟨2,46,[],[.tmp 4],Ij,none⟩
def Il:al:=
  (sr [od 2 (.new 48 7 (t 0)),mc 4 0,mc 5 0,od 6 (.move (.const (.bool false)))]
  (sr [la 11 7 2,ca 12 208 338 [(t 11)],mv 10 12,xt 13 10 0,
 xt 14 10 1,mv 7 13,mv 8 14]
  (.seq (sr [mv 15 8,od 16 (.bin .neq (t 15) (ic 0)),mv 17 16,og 18 (.move (t 7)) 17 false,
 og 19 (.bin .eql (t 18) (ic 3)) 17 false,od 20 (.pick (t 17) (.const (.bool true)) (t 19))]
  (.cond (t 20)
  (sr [mc 4 0,mc 5 0,od 6 (.move (.const (.bool false)))]
  .ret)
  .skip))
  (.seq (.drawn [mv 21 1,op 22 (.call 368 false (fc 339) [(t 21)]) [0],la 23 7 2,op 24 (.call 400 false (fc 340) [(t 22),(t 23)]) [1,2,1],
 od 9 (.new 160 5 (.const (.agg [i0,i0,.lit 1 [],.bool false,.bool false]))),⟨none,.store true 5 (t 9) (t 24),none,([4,3,3]++rg 5)⟩])
  (.seq (.drawn [fa 25 0 9,op 26 (.load false 1 (t 25)) [0],fa 27 1 9,op 28 (.load false 1 (t 27)) [2],
 op 4 (.move (t 26)) [1,0,1],op 5 (.move (t 28)) ([3,4]++rg 5),op 6 (.move (.const (.bool true))) ([5]++rg 6)])
  .ret)))))
def MX:aB:=⟨2,29,[],[.tmp 4,.tmp 5,.tmp 6],Il,none⟩
def Im:al:=
  (sr [od 2 (.new 48 7 (.const zE))]
  (sr [mv 6 0,ca 7 128 400 [(t 6)],mv 5 7,xt 8 5 0,
 xt 9 5 1,od 3 (.new 64 7 (.const zE)),ow (.store true 7 (t 3) (t 8)),mv 4 9]
  (sr [la 10 7 3,ow (.store true 7 (t 2) (t 10))]
  .ret)))
def MY:aB:=⟨1,11,[],[.cell 2 true 7],Im,none⟩
abbrev EA:al:=
  (.seq (sr [mv 34 5,fa 35 6 2,ld 36 35,ln 37 36,
 ls 38 34 37]
  (.cond (t 38)
  .skip
  (.exit 0)))
  (.seq (.block 1 (.seq (.drawn [fa 41 6 2,op 42 (.load false 1 (t 41)) [0],mv 43 5,op 44 (.indexAddr 7 (t 42) (t 43)) [1,2],
 op 45 (.load true 7 (t 44)) [3],fa 46 6 3,op 47 (.load false 1 (t 46)) [5],mv 48 5,
 op 49 (.indexAddr 7 (t 47) (t 48)) [6,7],op 50 (.load true 7 (t 49)) [8],op 51 (.call 832 false (fc 319) [(t 45),(t 50)]) [4,9],op 52 (.un .not (t 51)) [10]])
  (.cond (t 52)
  (sr [od 4 (.move (.const (.bool false)))]
  .ret)
  .skip)))
  (rn [mv 39 5,ad 40 39 1,mv 5 40])))
def Io:al:=
  (sr [od 2 (.new 48 7 (t 0)),od 3 (.new 64 7 (t 1)),od 4 (.move (.const (.bool false)))]
  (.seq (sr [fa 6 0 2,ld 7 6,fa 8 0 3,ld 9 8,
 od 10 (.bin .neq (t 7) (t 9)),mv 11 10,og 12 (.fieldAddr 1 (t 2)) 11 false,og 13 (.load false 1 (t 12)) 11 false,
 og 14 (.fieldAddr 1 (t 3)) 11 false,og 15 (.load false 1 (t 14)) 11 false,og 16 (.bin .neq (t 13) (t 15)) 11 false,od 17 (.pick (t 11) (.const (.bool true)) (t 16)),
 mv 18 17,og 19 (.fieldAddr 2 (t 2)) 18 false,og 20 (.load true 4 (t 19)) 18 false,og 21 (.fieldAddr 2 (t 3)) 18 false,
 og 22 (.load true 4 (t 21)) 18 false,og 23 (.D6 true [1,1,0,2] (t 20) (t 22)) 18 false,od 24 (.pick (t 18) (.const (.bool true)) (t 23)),mv 25 24,
 og 26 (.fieldAddr 6 (t 2)) 25 false,og 27 (.load false 1 (t 26)) 25 false,og 28 (.len (t 27)) 25 false,og 29 (.fieldAddr 6 (t 3)) 25 false,
 og 30 (.load false 1 (t 29)) 25 false,og 31 (.len (t 30)) 25 false,og 32 (.bin .neq (t 28) (t 31)) 25 false,od 33 (.pick (t 25) (.const (.bool true)) (t 32))]
  (.cond (t 33)
  (sr [od 4 (.move (.const (.bool false)))]
  .ret)
  .skip))
  (.seq (sr [mc 5 0]
  (.block 0 (.loop EA)))
  (sr [od 4 (.move (.const (.bool true)))]
  .ret))))
def MZ:aB:=⟨2,53,[],[.tmp 4],Io,none⟩
def Ip:al:=
  (sr [od 2 (.new 48 7 (t 0)),od 4 (.new 80 7 (.const zE))]
  (.seq (sr [la 8 7 2,ca 9 160 338 [(t 8)],mv 7 9,xt 10 7 0,
 xt 11 7 1,mv 5 10,mv 6 11]
  (sr [mv 12 6,od 13 (.bin .neq (t 12) (ic 0))]
  (.cond (t 13)
  (sr [la 14 7 2,ca 15 256 343 [(t 14)],ow (.store true 7 (t 4) (t 15))]
  .ret)
  .skip)))
  (.seq (.drawn [mv 16 1,op 17 (.call 288 false (fc 339) [(t 16)]) [0],la 18 7 2,op 19 (.call 320 false (fc 344) [(t 17),(t 18)]) [1,2,1],
 ⟨none,.store true 7 (t 4) (t 19),none,[3,3,0,1,2,3]⟩])
  .ret)))
def M0:aB:=⟨2,20,[],[.cell 4 true 7],Ip,none⟩
def Iq:al:=
  (sr [od 4 (.move (.const (.bool false)))]
  (sr [mv 5 0,mv 6 1,ca 7 128 390 [(t 5),(t 6)],od 8 (.bin .geq (t 7) (ic 0)),
 mv 4 8]
  .ret))
def M1:aB:=⟨2,9,[],[.tmp 4],Iq,none⟩
def Ir:al:=
  (sr [od 2 (.new 48 4 (t 0)),od 3 (.move (.const (.bool false)))]
  (sr [fa 8 0 2,ld 9 8,od 10 (.build [i0,i0,i0,i0,.bool false,.str [],.lit 7 []] [(0,1,(ic 2)),(1,1,(t 9))]),la 11 9 1,
 ca 12 208 348 [(t 10),(t 11)],mv 7 12,xt 13 7 0,xt 14 7 1,
 od 4 (.new 80 4 (.const (.agg [i0,i0,.bool false,.str []]))),ow (.store true 4 (t 4) (t 13)),mv 5 14]
  (.seq (sr [mv 15 5,od 16 (.bin .neq (t 15) (ic 0))]
  (.cond (t 16)
  (sr [od 3 (.move (.const (.bool false)))]
  .ret)
  .skip))
  (.seq (sr [fa 17 0 4,ld 18 17,eq 19 18 3]
  (.cond (t 19)
  (sr [fa 20 3 2,ld 21 20,fa 22 3 4,ld 23 22,
 ca 24 400 349 [(t 21),(t 23)],od 25 (.un .not (t 24)),mv 3 25]
  .ret)
  .skip))
  (sr [la 26 4 4,ca 27 448 350 [(t 26)],od 28 (.field false 0 1 (t 27)),mv 6 28]
  (sr [mv 29 6,fa 30 1 2,ld 31 30,ls 32 29 31,
 mv 33 32,og 34 (.move (t 6)) 33 false,og 35 (.fieldAddr 2 (t 2)) 33 false,og 36 (.load false 1 (t 35)) 33 false,
 og 37 (.bin .gtr (t 34) (t 36)) 33 false,od 38 (.pick (t 33) (.const (.bool true)) (t 37)),mv 3 38]
  .ret))))))
def M3:aB:=⟨2,39,[],[.tmp 3],Ir,none⟩
def Is:al:=
  (sr [od 2 (.new 48 7 (t 0)),od 3 (.new 64 9 (t 1)),od 4 (.new 80 4 (.const (.agg [i0,i0,.bool false,.str []]))),mc 5 0]
  (.seq (sr [la 9 7 2,ca 10 176 338 [(t 9)],mv 8 10,xt 11 8 0,
 xt 12 8 1,mv 6 11,mv 7 12]
  (sr [mv 13 7,od 14 (.bin .neq (t 13) (ic 0))]
  (.cond (t 14)
  (sr [od 15 (.build [i0,i0,.bool false,.str []] []),mv 16 7,ow (.store true 4 (t 4) (t 15)),mv 5 16]
  .ret)
  .skip)))
  (sr [la 17 7 2,la 18 9 3,ca 19 320 392 [(t 17),(t 18)],ca 20 336 391 [(t 19)],
 ow (.store true 4 (t 4) (t 20)),mc 5 0]
  .ret)))
def M4:aB:=⟨2,21,[],[.cell 4 true 4,.tmp 5],Is,none⟩
def It:al:=
  (sr [od 4 (.move (.const (.bool false)))]
  (sr [mv 5 0,mv 6 1,ca 7 128 393 [(t 5),(t 6)],od 8 (.bin .geq (t 7) (ic 0)),
 mv 4 8]
  .ret))
def M5:aB:=⟨2,9,[],[.tmp 4],It,none⟩
def Iu:al:=
  (sr [od 1 (.new 32 4 (t 0)),od 2 (.new 48 5 (.const (.agg [i0,i0,.lit 1 [],.bool false,.bool false])))]
  (.seq (sr [fa 3 0 1,ld 4 3]
  (.block 0 (sr [eq 6 4 3,mv 5 6]
  (.cond (t 5)
  (sr [fa 7 3 1,ld 8 7,od 9 (.buildSlice 160 1 (.str []) 1 [(0,(t 8))]),od 10 (.build [i0,i0,.lit 1 [],.bool false,.bool false] [(2,1,(t 9)),(3,1,(.const (.bool true))),(4,1,(.const (.bool true)))]),
 ow (.store true 5 (t 2) (t 10))]
  .ret)
  (sr [eq 12 4 2,mv 11 12]
  (.cond (t 11)
  (.seq (sr [fa 13 2 1,ld 14 13]
  (.cond (t 14)
  (sr [ca 15 256 394 [],ow (.store true 5 (t 2) (t 15))]
  .ret)
  .skip))
  (sr [ca 16 272 395 [],ow (.store true 5 (t 2) (t 16))]
  .ret))
  .skip))))))
  (sr [fa 17 1 1,ld 18 17,fa 19 1 1,ld 20 19,
 od 21 (.build [i0,i0,.lit 1 [],.bool false,.bool false] [(0,1,(t 18)),(1,1,(t 20))]),ow (.store true 5 (t 2) (t 21))]
  .ret)))
def M6:aB:=⟨1,22,[],[.cell 2 true 5],Iu,none⟩
def Iv:al:=
  (sr [od 10 (.bU 177 4)]
  (.seq (sr [mv 12 2,mv 13 3,od 14 (.bin .eql (t 12) (t 13))]
  (.cond (t 14)
  (sr [mv 15 0,mv 10 15]
  .ret)
  .skip))
  (sr [mv 16 0,ln 17 16,ad 18 17 1,mv 19 1,
 mv 20 2,mv 21 3,od 22 (.build [i0,.lit 2 [],i0,i0] [(0,1,(t 18)),(1,1,(t 19)),(2,1,(t 20)),(3,1,(t 21))]),od 11 (.new 192 4 (.const (.agg [i0,.lit 2 [],i0,i0]))),
 ow (.store true 4 (t 11) (t 22))]
  (.seq (sr [mv 23 4,ca 24 400 85 [(t 23),(ic 2)],eq 25 24 1]
  (.cond (t 25)
  (rn [la 26 4 11,ca 27 448 131 [(t 26)],ow (.store true 4 (t 11) (t 27))])
  .skip))
  (sr [mv 28 0,la 29 4 11,od 30 (.buildSlice 496 4 (.agg [i0,.nils,i0,i0]) 1 [(0,(t 29))]),od 31 (.append 17 4 2872193639704 (t 28) (t 30)),
 mv 10 31]
  .ret)))))
def f113:aB:=⟨5,32,[some 4,none,none,none,some 2],[.tmp 10],Iv,none⟩
abbrev EB:al:=
  (.seq (sr [mv 20 10,mv 21 8,od 22 (.bin .leq (t 20) (t 21))]
  (.cond (t 22)
  .skip
  (.exit 0)))
  (.seq (.block 1 (.seq (.drawn [fa 25 0 3,op 26 (.load false 1 (t 25)) [0],fa 27 0 9,op 28 (.load false 1 (t 27)) [2],
 mv 29 10,op 30 (.bin .mul (t 28) (t 29)) [3,4],mv 31 8,op 32 (.bin .add (t 31) (ic 1)) [6],
 op 33 (.bin .quo (t 30) (t 32)) [5,7],op 34 (.bin .add (t 26) (t 33)) [1,8],fa 35 1 3,op 36 (.load false 1 (t 35)) [10],
 fa 37 1 9,op 38 (.load false 1 (t 37)) [12],mv 39 10,op 40 (.bin .mul (t 38) (t 39)) [13,14],
 mv 41 8,op 42 (.bin .add (t 41) (ic 1)) [16],op 43 (.bin .quo (t 40) (t 42)) [15,17],op 44 (.bin .add (t 36) (t 43)) [11,18],
 op 45 (.build [i0,i0] [(0,1,(t 34)),(1,1,(t 44))]) [9,19],od 11 (.new 192 2 (.const (.agg [i0,i0]))),⟨none,.store true 2 (t 11) (t 45),none,([21,20]++rg 22)⟩])
  (sr [mv 46 2,ca 47 768 85 [(t 46),(ic 21)],od 48 (.bin .sub (t 47) (ic 10)),mv 49 8,
 od 50 (.bin .quo (t 49) (ic 2)),od 51 (.bin .add (ic 1) (t 50)),od 52 (.bin .quo (t 48) (t 51)),mv 12 52]
  (.seq (sr [fa 53 0 9,ld 54 53,fa 55 1 9,ld 56 55,
 od 57 (.bin .gtr (t 54) (t 56))]
  (.cond (t 57)
  (rn [fa 58 1 11,ld 59 58,mv 60 12,od 61 (.bin .add (t 59) (t 60)),
 fa 62 1 11,ow (.store false 1 (t 62) (t 61))])
  (rn [fa 63 0 11,ld 64 63,mv 65 12,od 66 (.bin .add (t 64) (t 65)),
 fa 67 0 11,ow (.store false 1 (t 67) (t 66))])))
  (rn [mv 68 7,la 69 2 11,od 70 (.buildSlice 1136 2 (.agg [i0,i0]) 1 [(0,(t 69))]),od 71 (.append 129 2 8278675785407 (t 68) (t 70)),
 od 7 (.il 129 (t 71))])))))
  (rn [mv 23 10,ad 24 23 1,mv 10 24])))
def Iw:al:=
  (sr [od 3 (.new 64 2 (t 0)),od 4 (.new 80 2 (t 1)),od 6 (.move (.const (.lit 2 [])))]
  (sr [la 13 2 3,od 14 (.buildSlice 240 2 (.agg [i0,i0]) 1 [(0,(t 13))]),od 7 (.il 129 (t 14))]
  (sr [mv 15 2,ca 16 272 85 [(t 15),(ic 4)],mv 8 16]
  (sr [la 17 2 4,la 18 2 3,ca 19 320 161 [(t 17),(t 18)],od 9 (.new 160 2 (.const (.agg [i0,i0]))),
 ow (.store true 2 (t 9) (t 19))]
  (.seq (sr [mc 10 1]
  (.block 0 (.loop EB)))
  (sr [mv 72 7,la 73 2 4,od 74 (.buildSlice 1200 2 (.agg [i0,i0]) 1 [(0,(t 73))]),od 75 (.append 129 2 8278675785407 (t 72) (t 74)),
 mv 6 75]
  .ret))))))
def f114:aB:=⟨3,76,[none,none,some 2],[.tmp 6],Iw,none⟩
def Ix:al:=
  (sr [od 6 (.new 112 2 (.const (.agg [i0,i0])))]
  (sr [mv 10 2,od 11 (.bin .mul (ic 4) (t 10)),mv 12 1,od 13 (.bin .add (t 11) (t 12)),
 mv 7 13]
  (sr [mc 8 0]
  (sr [mc 9 0]
  (.seq (sr [mv 14 7,od 15 (.bin .mul (ic 2) (t 14)),ad 16 15 1,mv 17 0,
 ln 18 17,ls 19 16 18]
  (.cond (t 19)
  (sr [mv 20 0,mv 21 7,od 22 (.bin .mul (ic 2) (t 21)),od 23 (.indexAddr 1 (t 20) (t 22)),
 ld 24 23,ca 25 416 93 [(t 24),(ic 21)],od 26 (.bin .sub (t 25) (ic 10)),mv 8 26]
  (rn [mv 27 0,mv 28 7,od 29 (.bin .mul (ic 2) (t 28)),ad 30 29 1,
 od 31 (.indexAddr 1 (t 27) (t 30)),ld 32 31,ca 33 544 93 [(t 32),(ic 21)],od 34 (.bin .sub (t 33) (ic 10)),
 mv 9 34]))
  .skip))
  (sr [mv 35 1,od 36 (.bin .mul (ic 100) (t 35)),od 37 (.bin .add (ic 40) (t 36)),mv 38 8,
 od 39 (.bin .add (t 37) (t 38)),mv 40 2,od 41 (.bin .mul (ic 100) (t 40)),od 42 (.bin .add (ic 40) (t 41)),
 mv 43 9,od 44 (.bin .add (t 42) (t 43)),od 45 (.build [i0,i0] [(0,1,(t 39)),(1,1,(t 44))]),ow (.store true 2 (t 6) (t 45))]
  .ret))))))
def f115:aB:=⟨3,46,[],[.cell 6 true 2],Ix,none⟩
def Iy:al:=
  (sr [od 5 (.new 96 6 (t 0)),mc 10 0]
  (.seq (sr [mv 11 3,od 12 (.bin .lss (t 11) (ic 0)),mv 13 12,og 14 (.move (t 4)) 13 false,
 og 15 (.bin .lss (t 14) (ic 0)) 13 false,od 16 (.pick (t 13) (.const (.bool true)) (t 15)),mv 17 16,og 18 (.move (t 3)) 17 false,
 og 19 (.move (t 1)) 17 false,og 20 (.bin .geq (t 18) (t 19)) 17 false,od 21 (.pick (t 17) (.const (.bool true)) (t 20)),mv 22 21,
 og 23 (.move (t 4)) 22 false,og 24 (.move (t 2)) 22 false,og 25 (.bin .geq (t 23) (t 24)) 22 false,od 26 (.pick (t 22) (.const (.bool true)) (t 25))]
  (.cond (t 26)
  (sr [mc 10 0]
  .ret)
  .skip))
  (sr [mv 27 3,mv 28 4,od 29 (.aR 3 2 (t 5) (t 27)),od 30 (.aR 2 1 (t 29) (t 28)),
 ld 31 30,mv 10 31]
  .ret)))
def f116:aB:=⟨5,32,[],[.tmp 10],Iy,none⟩
def Iz:al:=
  (sr [od 5 (.new 96 2 (t 1)),od 8 (.move (.const (.lit 4 [])))]
  (sr [mv 11 3,ca 12 208 85 [(t 11),(ic 8)],od 13 (.bin .add (ic 6) (t 12)),mv 9 13]
  (sr [fa 14 0 5,ld 15 14,mv 16 9,od 17 (.bin .sub (t 15) (t 16)),
 fa 18 1 5,ld 19 18,mv 20 9,od 21 (.bin .sub (t 19) (t 20)),
 od 22 (.build [i0,i0] [(0,1,(t 17)),(1,1,(t 21))]),fa 23 0 5,ld 24 23,mv 25 9,
 od 26 (.bin .add (t 24) (t 25)),fa 27 1 5,ld 28 27,mv 29 9,
 od 30 (.bin .sub (t 28) (t 29)),od 31 (.build [i0,i0] [(0,1,(t 26)),(1,1,(t 30))]),fa 32 0 5,ld 33 32,
 mv 34 9,od 35 (.bin .add (t 33) (t 34)),fa 36 1 5,ld 37 36,
 mv 38 9,od 39 (.bin .add (t 37) (t 38)),od 40 (.build [i0,i0] [(0,1,(t 35)),(1,1,(t 39))]),fa 41 0 5,
 ld 42 41,mv 43 9,od 44 (.bin .sub (t 42) (t 43)),fa 45 1 5,
 ld 46 45,mv 47 9,od 48 (.bin .sub (t 46) (t 47)),od 49 (.build [i0,i0] [(0,1,(t 44)),(1,1,(t 48))]),
 od 50 (.buildSlice 816 2 (.agg [i0,i0]) 4 [(0,(t 22)),(1,(t 31)),(2,(t 40)),(3,(t 49))]),od 10 (.il 177 (t 50))]
  (.seq (sr [mv 51 3,ca 52 848 85 [(t 51),(ic 2)],eq 53 52 1]
  (.cond (t 53)
  (rn [fa 54 0 5,ld 55 54,mv 56 9,od 57 (.bin .sub (t 55) (t 56)),
 fa 58 1 5,ld 59 58,od 60 (.build [i0,i0] [(0,1,(t 57)),(1,1,(t 59))]),fa 61 0 5,
 ld 62 61,fa 63 1 5,ld 64 63,mv 65 9,
 od 66 (.bin .sub (t 64) (t 65)),od 67 (.build [i0,i0] [(0,1,(t 62)),(1,1,(t 66))]),fa 68 0 5,ld 69 68,
 mv 70 9,od 71 (.bin .add (t 69) (t 70)),fa 72 1 5,ld 73 72,
 ad 74 73 2,od 75 (.build [i0,i0] [(0,1,(t 71)),(1,1,(t 74))]),fa 76 0 5,ld 77 76,
 fa 78 1 5,ld 79 78,mv 80 9,od 81 (.bin .add (t 79) (t 80)),
 od 82 (.build [i0,i0] [(0,1,(t 77)),(1,1,(t 81))]),fa 83 0 5,ld 84 83,mv 85 9,
 od 86 (.bin .sub (t 84) (t 85)),fa 87 1 5,ld 88 87,od 89 (.build [i0,i0] [(0,1,(t 86)),(1,1,(t 88))]),
 od 90 (.buildSlice 1456 2 (.agg [i0,i0]) 5 [(0,(t 60)),(1,(t 67)),(2,(t 75)),(3,(t 82)),(4,(t 89))]),od 10 (.il 177 (t 90))])
  .skip))
  (sr [mv 91 0,mv 92 10,mv 93 2,mv 94 3,
 od 95 (.call 1536 true (fc 113) [(t 91),(t 92),(ic 28),(t 93),(t 94)]),mv 8 95]
  .ret)))))
def f117:aB:=⟨4,96,[some 4,none,none,some 2],[.tmp 8],Iz,none⟩
abbrev EC:al:=
  (.seq (sr [mv 7 4,mv 8 0,ln 9 8,ls 10 7 9]
  (.cond (t 10)
  .skip
  (.exit 0)))
  (.seq (.block 1 (.seq (sr [mv 13 0,mv 14 4,od 15 (.indexAddr 4 (t 13) (t 14)),fa 16 2 15,
 ld 17 16,od 18 (.bin .neq (t 17) (ic 0))]
  (.cond (t 18)
  (rn [mv 19 3,mv 20 0,mv 21 4,od 22 (.indexAddr 4 (t 20) (t 21)),
 fa 23 2 22,ld 24 23,ca 25 416 162 [(t 19),(t 24)],od 3 (.il 65 (t 25))])
  .skip))
  (sr [mv 26 0,mv 27 4,od 28 (.indexAddr 4 (t 26) (t 27)),fa 29 3 28,
 ld 30 29,od 31 (.bin .neq (t 30) (ic 0))]
  (.cond (t 31)
  (rn [mv 32 3,mv 33 0,mv 34 4,od 35 (.indexAddr 4 (t 33) (t 34)),
 fa 36 3 35,ld 37 36,ca 38 624 162 [(t 32),(t 37)],od 3 (.il 65 (t 38))])
  .skip))))
  (rn [mv 11 4,ad 12 11 1,mv 4 12])))
abbrev ED:al:=
  (.seq (sr [mv 39 6,mv 40 3,ln 41 40,ls 42 39 41]
  (.cond (t 42)
  .skip
  (.exit 2)))
  (.seq (.block 3 (rn [mv 45 5,mv 46 3,mv 47 6,od 48 (.indexAddr 1 (t 46) (t 47)),
 ld 49 48,od 50 (.build [i0,.str [],.str [],i0,i0] [(0,1,(t 49))]),od 51 (.buildSlice 832 5 (.agg [i0,.str [],.str [],i0,i0]) 1 [(0,(t 50))]),od 52 (.append 97 5 2469078742875 (t 45) (t 51)),
 od 5 (.il 97 (t 52))]))
  (rn [mv 43 6,ad 44 43 1,mv 6 44])))
def IA:al:=
 (sr [od 2 (.bU 49 5)]
 (sr [od 3 (.move (.const (.lit 1 [])))]
 (.seq (sr [mc 4 0]
 (.block 0 (.loop EC)))
 (sr [od 5 (.bU 97 5)]
 (.seq (sr [mc 6 0]
 (.block 2 (.loop ED)))
 (sr [mv 53 5,mv 2 53]
 .ret))))))
def f118:aB:=⟨1,54,[],[.tmp 2],IA,none⟩
abbrev EE:al:=
  (.seq (sr [mv 25 13,mv 26 12,od 27 (.bin .leq (t 25) (t 26))]
  (.cond (t 27)
  .skip
  (.exit 0)))
  (.seq (.block 1 (.seq (.drawn [fa 30 0 6,op 31 (.load false 1 (t 30)) [0],fa 32 0 7,op 33 (.load false 1 (t 32)) [2],
 fa 34 0 6,op 35 (.load false 1 (t 34)) [4],op 36 (.bin .sub (t 33) (t 35)) [3,5],mv 37 13,
 op 38 (.bin .mul (t 36) (t 37)) [6,7],mv 39 12,op 40 (.bin .add (t 39) (ic 1)) [9],op 41 (.bin .quo (t 38) (t 40)) [8,10],
 op 42 (.bin .add (t 31) (t 41)) [1,11],fa 43 1 6,op 44 (.load false 1 (t 43)) [13],fa 45 1 7,
 op 46 (.load false 1 (t 45)) [15],fa 47 1 6,op 48 (.load false 1 (t 47)) [17],op 49 (.bin .sub (t 46) (t 48)) [16,18],
 mv 50 13,op 51 (.bin .mul (t 49) (t 50)) [19,20],mv 52 12,op 53 (.bin .add (t 52) (ic 1)) [22],
 op 54 (.bin .quo (t 51) (t 53)) [21,23],op 55 (.bin .add (t 44) (t 54)) [14,24],op 56 (.build [i0,i0] [(0,1,(t 42)),(1,1,(t 55))]) [12,25],od 14 (.new 240 2 (.const (.agg [i0,i0]))),
 ⟨none,.store true 2 (t 14) (t 56),none,([27,26]++rg 28)⟩])
  (sr [mv 57 4,ca 58 944 85 [(t 57),(ic 17)],od 59 (.bin .sub (t 58) (ic 8)),mv 15 59]
  (.seq (sr [fa 60 1 6,ld 61 60,fa 62 1 7,ld 63 62,
 od 64 (.bin .eql (t 61) (t 63))]
  (.cond (t 64)
  (rn [fa 65 1 14,ld 66 65,mv 67 15,od 68 (.bin .add (t 66) (t 67)),
 fa 69 1 14,ow (.store false 1 (t 69) (t 68))])
  .skip))
  (.seq (sr [fa 70 0 6,ld 71 70,fa 72 0 7,ld 73 72,
 od 74 (.bin .eql (t 71) (t 73))]
  (.cond (t 74)
  (rn [fa 75 0 14,ld 76 75,mv 77 15,od 78 (.bin .add (t 76) (t 77)),
 fa 79 0 14,ow (.store false 1 (t 79) (t 78))])
  .skip))
  (rn [fa 80 1 11,ld 81 80,la 82 2 14,od 83 (.buildSlice 1344 2 (.agg [i0,i0]) 1 [(0,(t 82))]),
 od 84 (.append 195 2 8278675785407 (t 81) (t 83)),fa 85 1 11,ow (.store false 1 (t 85) (t 84))]))))))
  (rn [mv 28 13,ad 29 28 1,mv 13 29])))
def IB:al:=
  (sr [od 6 (.new 112 2 (t 1)),od 7 (.new 128 2 (t 2)),od 10 (.move (.const (.lit 8 [])))]
  (sr [mv 16 0,ln 17 16,od 18 (.bin .add (ic 41) (t 17)),mv 19 3,
 la 20 2 6,od 21 (.buildSlice 352 2 (.agg [i0,i0]) 1 [(0,(t 20))]),od 22 (.build [i0,.nils,i0,.str [],.str [],.bool false,i0,i0] [(0,1,(t 18)),(2,1,(t 19)),(1,1,(t 21))]),od 11 (.new 192 8 (.const (.agg [i0,.nils,i0,.str [],.str [],.bool false,i0,i0]))),
 ow (.store true 8 (t 11) (t 22))]
  (sr [mv 23 4,ca 24 400 85 [(t 23),(ic 3)],mv 12 24]
  (.seq (sr [mc 13 1]
  (.block 0 (.loop EE)))
  (sr [fa 86 1 11,ld 87 86,la 88 2 7,od 89 (.buildSlice 1440 2 (.agg [i0,i0]) 1 [(0,(t 88))]),
 od 90 (.append 195 2 8278675785407 (t 87) (t 89)),fa 91 1 11,ow (.store false 1 (t 91) (t 90))]
  (sr [od 92 (.buildSlice 1488 1 (.str []) 2 [(0,(.const (.str [112,97,116,104]))),(1,(.const (.str [114,111,97,100])))]),mv 93 4,ca 94 1520 85 [(t 93),(ic 2)],od 95 (.indexAddr 1 (t 92) (t 94)),
 ld 96 95,fa 97 3 11,ow (.store false 1 (t 97) (t 96))]
  (sr [od 98 (.buildSlice 1584 1 (.str []) 4 [(0,(.const (.str []))),(1,(.const (.str []))),(2,(.const (.str [82,105,110,103]))),(3,(.const (.str [79,108,100,32,87,97,121])))]),mv 99 4,ca 100 1616 85 [(t 99),(ic 4)],od 101 (.indexAddr 1 (t 98) (t 100)),
 ld 102 101,fa 103 4 11,ow (.store false 1 (t 103) (t 102))]
  (sr [mv 104 4,ca 105 1696 85 [(t 104),(ic 4)],eq 106 105 0,fa 107 5 11,
 ow (.store false 1 (t 107) (t 106))]
  (sr [mv 108 4,ca 109 1760 85 [(t 108),(ic 60)],od 110 (.bin .add (ic 1) (t 109)),fa 111 6 11,
 ow (.store false 1 (t 111) (t 110))]
  (sr [mv 112 4,ca 113 1824 85 [(t 112),(ic 3)],mv 114 4,ca 115 1856 85 [(t 114),(ic 2)],
 od 116 (.bin .mul (t 113) (t 115)),od 117 (.bin .add (ic 1) (t 116)),fa 118 7 11,ow (.store false 1 (t 118) (t 117))]
  (sr [mv 119 0,la 120 8 11,od 121 (.buildSlice 1952 8 (.agg [i0,.nils,i0,.str [],.str [],.bool false,i0,i0]) 1 [(0,(t 120))]),od 122 (.append 17 8 1450901941607 (t 119) (t 121)),
 mv 10 122]
  .ret)))))))))))
def f119:aB:=⟨5,123,[some 8,none,none,none,some 2],[.tmp 10],IB,none⟩
def IC:al:=
  (sr [od 4 (.new 80 2 (.const (.agg [i0,i0])))]
  (sr [mv 5 0,od 6 (.bin .mul (ic 80) (t 5)),od 7 (.bin .add (ic 55) (t 6)),mv 8 1,
 od 9 (.bin .mul (ic 70) (t 8)),od 10 (.bin .add (ic 65) (t 9)),od 11 (.build [i0,i0] [(0,1,(t 7)),(1,1,(t 10))]),ow (.store true 2 (t 4) (t 11))]
  .ret))
def f120:aB:=⟨2,12,[],[.cell 4 true 2],IC,none⟩
def ID:al:=
  (sr [od 3 (.new 64 2 (t 1)),mc 4 0,od 5 (.move (.const (.bool false)))]
  (.seq (.drawn [mv 6 0,op 7 (.call 128 false (fc 164) [(t 6)]) [0],la 8 2 3,op 9 (.call 160 false (fc 163) [(t 7),(t 8)]) [1,2,1],
 op 10 (.extract (t 9) 0) [3],op 11 (.extract (t 9) 1) [3],op 4 (.move (t 10)) ([4,3]++rg 6),op 5 (.move (t 11)) ([5,6]++rg 7)])
  .ret))
def f121:aB:=⟨2,12,[],[.tmp 4,.tmp 5],ID,none⟩
abbrev EF:al:=
  (.seq (sr [mv 6 5,fa 7 1 2,ld 8 7,ln 9 8,
 ls 10 6 9]
  (.cond (t 10)
  .skip
  (.exit 0)))
  (.seq (.block 1 (sr [fa 13 1 2,ld 14 13,mv 15 5,od 16 (.indexAddr 5 (t 14) (t 15)),
 fa 17 0 16,ld 18 17,mv 19 1,od 20 (.bin .eql (t 18) (t 19))]
  (.cond (t 20)
  (sr [fa 21 1 2,ld 22 21,mv 23 5,od 24 (.indexAddr 5 (t 22) (t 23)),
 fa 25 4 24,ld 26 25,mv 4 26]
  .ret)
  .skip)))
  (rn [mv 11 5,ad 12 11 1,mv 5 12])))
def IE:al:=
 (sr [od 2 (.new 48 4 (t 0)),mc 4 0]
 (.seq (sr [mc 5 0]
 (.block 0 (.loop EF)))
 (sr [mc 4 0]
 .ret)))
def f122:aB:=⟨2,27,[],[.tmp 4],IE,none⟩
def IF:al:=
 (sr [od 2 (.move (.const (.lit 2 [])))]
 (sr [od 3 (.buildSlice 64 2 (.agg [i0,i0]) 0 []),mv 4 0,od 5 (.append 96 2 8278675785407 (t 3) (t 4)),mv 2 5]
 .ret))
def f130:aB:=⟨1,6,[],[.tmp 2],IF,none⟩
abbrev EG:al:=
  (.seq (sr [mv 16 4,od 17 (.bin .geq (t 16) (ic 0))]
  (.cond (t 17)
  .skip
  (.exit 0)))
  (.seq (.block 1 (.drawn [fa 20 1 3,op 21 (.load false 1 (t 20)) [0],fa 22 1 1,op 23 (.load false 1 (t 22)) [2],
 mv 24 4,op 25 (.indexAddr 2 (t 23) (t 24)) [3,4],op 26 (.load true 2 (t 25)) [5],op 27 (.buildSlice 448 2 (.agg [i0,i0]) 1 [(0,(t 26))]) [6],
 op 28 (.append 67 2 8278675785407 (t 21) (t 27)) [1,7],op 29 (.fieldAddr 1 (t 3)) (rg 9),⟨none,.store false 1 (t 29) (t 28),none,([9,8,8]++rg 9)⟩]))
  (rn [mv 18 4,od 19 (.bin .sub (t 18) (ic 1)),mv 4 19])))
def IG:al:=
  (sr [od 1 (.new 32 4 (t 0)),od 2 (.new 48 4 (.const (.agg [i0,.lit 2 [],i0,i0])))]
  (sr [fa 5 0 1,ld 6 5,fa 7 3 1,ld 8 7,
 fa 9 2 1,ld 10 9,od 11 (.build [i0,.nils,i0,i0] [(0,1,(t 6)),(2,1,(t 8)),(3,1,(t 10))]),od 3 (.new 64 4 (.const (.agg [i0,.nils,i0,i0]))),
 ow (.store true 4 (t 3) (t 11))]
  (.seq (sr [fa 12 1 1,ld 13 12,ln 14 13,od 15 (.bin .sub (t 14) (ic 1)),
 mv 4 15]
  (.block 0 (.loop EG)))
  (sr [od 30 (.qJ [0,2,0,0] true 4 (t 3)),ow (.store true 4 (t 2) (t 30))]
  .ret))))
def f131:aB:=⟨1,31,[],[.cell 2 true 4],IG,none⟩
abbrev IH:al:=
  (.seq (sr [mv 11 3,mv 12 3,od 13 (.bin .mul (t 11) (t 12)),mv 14 0,
 od 15 (.bin .gtr (t 13) (t 14))]
  (.cond (t 15)
  .skip
  (.exit 0)))
  (.block 1 (rn [mv 16 3,od 17 (.bin .sub (t 16) (ic 1)),mv 3 17])))
abbrev II:al:=
  (.seq (sr [mv 18 3,od 19 (.bin .lss (t 18) (ic 3037000499)),mv 20 19,og 21 (.move (t 3)) 20 true,
 og 22 (.bin .add (t 21) (ic 1)) 20 true,og 23 (.move (t 3)) 20 true,og 24 (.bin .add (t 23) (ic 1)) 20 true,og 25 (.bin .mul (t 22) (t 24)) 20 true,
 og 26 (.move (t 0)) 20 true,og 27 (.bin .leq (t 25) (t 26)) 20 true,od 28 (.pick (t 20) (t 27) (.const (.bool false)))]
  (.cond (t 28)
  .skip
  (.exit 2)))
  (.block 3 (rn [mv 29 3,ad 30 29 1,mv 3 30])))
def M7:al:=
  (sr [mc 2 0]
  (.seq (sr [mv 4 0,od 5 (.bin .leq (t 4) (ic 0))]
  (.cond (t 5)
  (sr [mc 2 0]
  .ret)
  .skip))
  (sr [mv 6 0,od 7 (.qe (t 6)),ca 8 144 41 [(t 7)],od 9 (.qf .i64 (t 8)),
 od 10 (.min [(t 9),(ic 3037000499)]),mv 3 10]
  (.seq (.block 0 (.loop IH))
  (.seq (.block 2 (.loop II))
  (sr [mv 31 3,mv 2 31]
  .ret))))))
def f27:aB:=⟨1,32,[],[.tmp 2],M7,none⟩
abbrev EH:al:=
  (.seq (sr [mv 12 4,mv 13 0,ln 14 13,ls 15 12 14]
  (.cond (t 15)
  .skip
  (.exit 0)))
  (.seq (.block 1 (rn [mv 18 3,mv 19 0,mv 20 4,od 21 (.indexAddr 1 (t 19) (t 20)),
 ld 22 21,od 23 (.min [(t 18),(t 22)]),mv 3 23]))
  (rn [mv 16 4,ad 17 16 1,mv 4 17])))
def IJ:al:=
 (sr [mc 2 0]
 (.seq (sr [mv 5 0,ln 6 5,od 7 (.bin .lss (t 6) (ic 1))]
 (.cond (t 7)
 (rn [od 8 (.b6 9 (.const (.str [115,108,105,99,101,115,46,77,105,110,58,32,101,109,112,116,121,32,108,105,115,116]))),ow (.bad)])
 .skip))
 (sr [mv 9 0,od 10 (.indexAddr 1 (t 9) (ic 0)),ld 11 10,mv 3 11]
 (.seq (sr [mc 4 1]
 (.block 0 (.loop EH)))
 (sr [mv 24 3,mv 2 24]
 .ret)))))
def IK:aB:=⟨1,25,[],[.tmp 2],IJ,none⟩
abbrev EI:al:=
  (.seq (sr [mv 12 4,mv 13 0,ln 14 13,ls 15 12 14]
  (.cond (t 15)
  .skip
  (.exit 0)))
  (.seq (.block 1 (rn [mv 18 3,mv 19 0,mv 20 4,od 21 (.indexAddr 1 (t 19) (t 20)),
 ld 22 21,od 23 (.max [(t 18),(t 22)]),mv 3 23]))
  (rn [mv 16 4,ad 17 16 1,mv 4 17])))
def IL:al:=
 (sr [mc 2 0]
 (.seq (sr [mv 5 0,ln 6 5,od 7 (.bin .lss (t 6) (ic 1))]
 (.cond (t 7)
 (rn [od 8 (.b6 9 (.const (.str [115,108,105,99,101,115,46,77,97,120,58,32,101,109,112,116,121,32,108,105,115,116]))),ow (.bad)])
 .skip))
 (sr [mv 9 0,od 10 (.indexAddr 1 (t 9) (ic 0)),ld 11 10,mv 3 11]
 (.seq (sr [mc 4 1]
 (.block 0 (.loop EI)))
 (sr [mv 24 3,mv 2 24]
 .ret)))))
def IM:aB:=⟨1,25,[],[.tmp 2],IL,none⟩
def IN:al:=
  (sr [mv 3 0,ln 4 3,mv 2 4]
  (rn [mv 5 0,mv 6 2,mv 7 2,od 8 (.iF .u64 (t 7)),
 ca 9 160 40 [(t 8)],ca 10 176 465 [(t 5),(ic 0),(t 6),(t 9)]]))
def M8:aB:=⟨1,11,[some 1],[],IN,none⟩
abbrev EJ:al:=
  (.seq (sr [mv 29 5,mv 30 4,ln 31 30,ls 32 29 31]
  (.cond (t 32)
  .skip
  (.exit 2)))
  (.seq (.block 3 (.seq (.drawn [mv 35 4,mv 36 5,op 37 (.indexAddr 1 (t 35) (t 36)) [0,1],op 38 (.load false 1 (t 37)) [2],
 mv 39 4,mv 40 5,op 41 (.bin .sub (t 40) (ic 1)) [5],op 42 (.indexAddr 1 (t 39) (t 41)) [4,6],
 op 43 (.load false 1 (t 42)) [7],op 44 (.bin .neq (t 38) (t 43)) [3,8]])
  (.cond (t 44)
  (sr [mv 45 0,mv 46 3,mv 47 4,mv 48 5,
 od 49 (.indexAddr 1 (t 47) (t 48)),ld 50 49,od 51 (.indexAddr 1 (t 45) (t 46)),ow (.store false 1 (t 51) (t 50))]
  (rn [mv 52 3,ad 53 52 1,mv 3 53]))
  .skip)))
  (rn [mv 33 5,ad 34 33 1,mv 5 34])))
abbrev EK:al:=
  (.seq (sr [mv 10 3,mv 11 0,ln 12 11,ls 13 10 12]
  (.cond (t 13)
  .skip
  (.exit 0)))
  (.seq (.block 1 (.seq (.drawn [mv 16 0,mv 17 3,op 18 (.indexAddr 1 (t 16) (t 17)) [0,1],op 19 (.load false 1 (t 18)) [2],
 mv 20 0,mv 21 3,op 22 (.bin .sub (t 21) (ic 1)) [5],op 23 (.indexAddr 1 (t 20) (t 22)) [4,6],
 op 24 (.load false 1 (t 23)) [7],op 25 (.bin .eql (t 19) (t 24)) [3,8]])
  (.cond (t 25)
  (sr [mv 26 0,mv 27 3,od 28 (.slice 1 (t 26) (some (t 27)) none none),mv 4 28]
  (.seq (sr [mc 5 1]
  (.block 2 (.loop EJ)))
  (sr [mv 54 0,mv 55 3,od 56 (.slice 1 (t 54) (some (t 55)) none none),ow (.clear 1 (.str []) (t 56))]
  (sr [mv 57 0,mv 58 3,od 59 (.slice 1 (t 57) none (some (t 58)) none),mv 2 59]
  .ret))))
  .skip)))
  (rn [mv 14 3,ad 15 14 1,mv 3 15])))
def IP:al:=
 (sr [od 2 (.move (.const (.lit 1 [])))]
 (.seq (sr [mv 6 0,ln 7 6,od 8 (.bin .lss (t 7) (ic 2))]
 (.cond (t 8)
 (sr [mv 9 0,mv 2 9]
 .ret)
 .skip))
 (.seq (sr [mc 3 1]
 (.block 0 (.loop EK)))
 (sr [mv 60 0,mv 2 60]
 .ret))))
def IQ:aB:=⟨1,61,[some 1],[.tmp 2],IP,none⟩
def IS:al:=
 (sr [od 1 (.new 32 7 (t 0)),mc 2 0,mc 3 0]
 (.seq (sr [la 5 7 1,ca 6 112 370 [(t 5)],od 7 (.bin .gtr (t 6) (ic 60))]
 (.cond (t 7)
 (sr [mc 2 0,mc 3 2]
 .ret)
 .skip))
 (sr [la 8 7 1,ca 9 160 371 [(t 8)],mv 4 9]
 (.seq (sr [mv 10 4,eq 11 10 0]
 (.cond (t 11)
 (sr [mc 2 0,mc 3 30]
 .ret)
 .skip))
 (sr [mv 12 4,mv 2 12,mc 3 0]
 .ret)))))
def M9:aB:=⟨1,13,[],[.tmp 2,.tmp 3],IS,none⟩
abbrev EL:al:=
  (sr [ls 35 34 33]
  (.seq (.cond (t 35)
  .skip
  (.exit 2))
  (.seq (.block 3 (sr [od 36 (.indexAddr 4 (t 32) (t 34)),la 37 4 36,od 9 (.new 160 4 (.const (.agg [i0,i0,i0,.lit 1 []]))),ow (.store true 4 (t 9) (t 37))]
  (rn [fa 38 0 6,ld 39 38,fa 40 1 9,ld 41 40,
 od 42 (.max [(t 39),(t 41)]),fa 43 1 6,ld 44 43,fa 45 2 9,
 ld 46 45,od 47 (.min [(t 44),(t 46)]),od 48 (.build [i0,i0,.lit 1 [],.bool false,.bool false] [(0,1,(t 42)),(1,1,(t 47))]),ow (.store true 5 (t 6) (t 48))])))
  (rn [ad 49 34 1,mv 34 49]))))
abbrev EM:al:=
  (.seq (sr [ld 11 4,od 12 (.bin .leq (t 11) (ic 9))]
  (.cond (t 12)
  .skip
  (.exit 0)))
  (.seq (.block 1 (sr [mv 15 0,od 16 (.call 272 true (fc 373) [(t 15)]),od 17 (.im 374 [(t 4)]),ca 18 304 372 [(t 16),(t 17)],
 od 5 (.il 97 (t 18))]
  (.seq (sr [ld 19 4,ca 20 336 375 [(t 19)],eq 21 20 3]
  (.cond (t 21)
  (.seq (.drawn [mv 22 3,ld 23 4,mv 24 5,op 25 (.call 416 false (fc 376) [(t 24)]) [2],
 ⟨none,.lT (some .i64) (t 22) (t 23) (t 25),none,[0,1,3,3,0,1,2,3]⟩])
  (.exit 1))
  .skip))
  (sr [od 26 (.build [i0,i0,.lit 1 [],.bool false,.bool false] [(0,1,(ic (-1073741824))),(1,1,(ic 1073741824))]),od 6 (.new 112 5 (.const (.agg [i0,i0,.lit 1 [],.bool false,.bool false]))),ow (.store true 5 (t 6) (t 26))]
  (.seq (sr [ld 27 4,ca 28 464 375 [(t 27)],eq 29 28 2]
  (.cond (t 29)
  (rn [ca 30 496 377 [],ow (.store true 5 (t 6) (t 30))])
  .skip))
  (sr [la 31 5 6,od 7 (.new 128 5 (.const (.agg [i0,i0,.lit 1 [],.bool false,.bool false]))),ow (.store true 5 (t 7) (t 31))]
  (.seq (sr [mv 32 5,ln 33 32,mc 34 0]
  (.block 2 (.loop EL)))
  (.seq (sr [fa 50 0 6,ld 51 50,fa 52 1 6,ld 53 52,
 od 54 (.bin .gtr (t 51) (t 53))]
  (.cond (t 54)
  (rn [la 55 5 7,ow (.store true 5 (t 6) (t 55))])
  .skip))
  (rn [mv 56 3,ld 57 4,la 58 5 6,ow (.lT (some .i64) (t 56) (t 57) (t 58))])))))))))
  (.seq (sr [ld 59 4]
  (rn [od 4 (.new 80 1 (ic 0)),ow (.store false 1 (t 4) (t 59))]))
  (rn [ld 13 4,ad 14 13 1,ow (.store false 1 (t 4) (t 14))]))))
def IT:al:=
 (sr [od 2 (.yp (.const (.mlit [])))]
 (sr [od 10 (.mkMap 176),mv 3 10]
 (.seq (sr [od 4 (.new 80 1 (ic 0)),ow (.store false 1 (t 4) (ic 1))]
 (.block 0 (.loop EM)))
 (sr [mv 60 3,od 2 (.yp (t 60))]
 .ret))))
def Na:aB:=⟨1,61,[],[.tmp 2],IT,none⟩
def IU:al:=
  (sr [od 3 (.new 64 7 (t 1)),od 4 (.new 80 5 (.const (.agg [i0,i0,.lit 1 [],.bool false,.bool false])))]
  (.seq (sr [fa 9 0 3,ld 10 9]
  (.block 0 (sr [eq 12 10 1,mv 11 12]
  (.cond (t 11)
  (sr [fa 13 2 3,la 14 4 13,ca 15 256 350 [(t 14)],ow (.store true 5 (t 4) (t 15))]
  .ret)
  (sr [eq 17 10 2,mv 16 17]
  (.cond (t 16)
  (sr [mv 18 0,fa 19 1 3,ld 20 19,od 21 (.qg (some .i64) false (.agg [i0,i0,.nils,.bool false,.bool false]) (t 18) (t 20)),
 ow (.store true 5 (t 4) (t 21))]
  .ret)
  (sr [eq 23 10 3,mv 22 23]
  (.cond (t 22)
  (sr [mv 24 0,fa 25 6 3,ld 26 25,od 27 (.indexAddr 7 (t 26) (ic 0)),
 la 28 7 27,ca 29 480 340 [(t 24),(t 28)],od 5 (.new 96 5 (.const (.agg [i0,i0,.lit 1 [],.bool false,.bool false]))),ow (.store true 5 (t 5) (t 29))]
  (sr [fa 30 1 5,ld 31 30,od 32 (.bin .sub (ic 1) (t 31)),fa 33 0 5,
 ld 34 33,od 35 (.bin .sub (ic 1) (t 34)),od 36 (.build [i0,i0,.lit 1 [],.bool false,.bool false] [(0,1,(t 32)),(1,1,(t 35))]),ow (.store true 5 (t 4) (t 36))]
  .ret))
  (sr [eq 38 10 13,mv 37 38]
  (.cond (t 37)
  (.seq (sr [mv 39 0,fa 40 6 3,ld 41 40,od 42 (.indexAddr 7 (t 41) (ic 0)),
 la 43 7 42,ca 44 720 340 [(t 39),(t 43)],od 6 (.new 112 5 (.const (.agg [i0,i0,.lit 1 [],.bool false,.bool false]))),ow (.store true 5 (t 6) (t 44))]
  (.block 1 (sr [fa 46 0 6,ld 47 46,eq 48 47 1,mv 45 48]
  (.cond (t 45)
  (sr [mv 49 0,fa 50 6 3,ld 51 50,od 52 (.indexAddr 7 (t 51) (ic 1)),
 la 53 7 52,ca 54 880 340 [(t 49),(t 53)],ow (.store true 5 (t 4) (t 54))]
  .ret)
  (sr [fa 56 1 6,ld 57 56,eq 58 57 0,mv 55 58]
  (.cond (t 55)
  (sr [mv 59 0,fa 60 6 3,ld 61 60,od 62 (.indexAddr 7 (t 61) (ic 2)),
 la 63 7 62,ca 64 1040 340 [(t 59),(t 63)],ow (.store true 5 (t 4) (t 64))]
  .ret)
  .skip))))))
  (.seq (.drawn [mv 65 0,fa 66 6 3,op 67 (.load false 1 (t 66)) [1],op 68 (.indexAddr 7 (t 67) (ic 1)) [2],
 op 69 (.load true 7 (t 68)) [3],op 70 (.call 1136 false (fc 340) [(t 65),(t 69)]) [0,4],mv 71 0,fa 72 6 3,
 op 73 (.load false 1 (t 72)) [7],op 74 (.indexAddr 7 (t 73) (ic 2)) [8],op 75 (.load true 7 (t 74)) [9],op 76 (.call 1232 false (fc 340) [(t 71),(t 75)]) [6,10,5],
 op 77 (.call 1248 false (fc 378) [(t 70),(t 76)]) [5,11,11],⟨none,.store true 5 (t 4) (t 77),none,([12,12]++rg 13)⟩])
  .ret))
  .skip))))))))))
  (sr [ca 78 1264 379 [],od 7 (.il 129 (t 78))]
  (sr [mv 79 7,od 80 (.im 381 [(t 3)]),ca 81 1312 380 [(t 79),(t 80)],mv 8 81]
  (.seq (.drawn [mv 82 7,mv 83 8,op 84 (.indexAddr 2 (t 82) (t 83)) [0,1],op 85 (.fieldAddr 1 (t 84)) [2],
 op 86 (.load false 1 (t 85)) [3],mv 87 0,fa 88 6 3,op 89 (.load false 1 (t 88)) [6],
 op 90 (.indexAddr 7 (t 89) (ic 0)) [7],op 91 (.load true 7 (t 90)) [8],op 92 (.call 1488 false (fc 340) [(t 87),(t 91)]) [5,9],mv 93 0,
 fa 94 6 3,op 95 (.load false 1 (t 94)) [12],op 96 (.indexAddr 7 (t 95) (ic 1)) [13],op 97 (.load true 7 (t 96)) [14],
 op 98 (.call 1584 false (fc 340) [(t 93),(t 97)]) [11,15,10],op 99 (.call 1600 false (t 86) [(t 92),(t 98)]) [4,10,16,16],⟨none,.store true 5 (t 4) (t 99),none,([17,17]++rg 18)⟩])
  .ret)))))
def Nb:aB:=⟨2,100,[],[.cell 4 true 5],IU,none⟩
def IV:al:=
  (sr [od 2 (.new 48 7 (.const zE)),mc 3 0]
  (.seq (sr [mv 10 0,od 11 (.dN (t 10)),od 12 (.bin .gtr (t 11) (ic 4096))]
  (.cond (t 12)
  (sr [od 13 (.build [i0,i0,i0,i0,.bool false,.str [],.lit 7 []] []),ow (.store true 7 (t 2) (t 13)),mc 3 2]
  .ret)
  .skip))
  (sr [mv 15 0,ca 16 272 422 [(t 15)],mv 14 16,xt 17 14 0,
 xt 18 14 1,mv 4 17,mv 5 18]
  (.seq (sr [mv 19 5,od 20 (.un .not (t 19))]
  (.cond (t 20)
  (sr [od 21 (.build [i0,i0,i0,i0,.bool false,.str [],.lit 7 []] []),ow (.store true 7 (t 2) (t 21)),mc 3 4]
  .ret)
  .skip))
  (sr [mv 22 4,od 23 (.build [.lit 1 [],.bool false] [(0,1,(t 22))]),od 24 (.new 400 2 (t 23)),mv 6 24]
  (sr [mv 25 6,ca 26 432 423 [(t 25)],od 7 (.new 128 7 (.const zE)),ow (.store true 7 (t 7) (t 26))]
  (.seq (sr [mv 27 6,od 28 (.nilCheck (t 27)),fa 29 1 28,ld 30 29,
 mv 31 30,og 32 (.move (t 6)) 31 false,og 33 (.nilCheck (t 32)) 31 false,og 34 (.fieldAddr 0 (t 33)) 31 false,
 og 35 (.load false 1 (t 34)) 31 false,og 36 (.len (t 35)) 31 false,og 37 (.bin .gtr (t 36) (ic 0)) 31 false,od 38 (.pick (t 31) (.const (.bool true)) (t 37))]
  (.cond (t 38)
  (sr [od 39 (.build [i0,i0,i0,i0,.bool false,.str [],.lit 7 []] []),ow (.store true 7 (t 2) (t 39)),mc 3 4]
  .ret)
  .skip))
  (sr [la 41 7 7,ca 42 688 341 [(t 41)],mv 40 42,xt 43 40 0,
 xt 44 40 1,mv 8 43,mv 9 44]
  (.seq (sr [mv 45 9,od 46 (.bin .neq (t 45) (ic 0))]
  (.cond (t 46)
  (sr [od 47 (.build [i0,i0,i0,i0,.bool false,.str [],.lit 7 []] []),mv 48 9,ow (.store true 7 (t 2) (t 47)),mv 3 48]
  .ret)
  .skip))
  (sr [la 49 7 7,ow (.store true 7 (t 2) (t 49)),mc 3 0]
  .ret))))))))))
def Nc:aB:=⟨1,50,[],[.cell 2 true 7,.tmp 3],IV,none⟩
abbrev EN:al:=
  (sr [ls 12 11 10]
  (.seq (.cond (t 12)
  .skip
  (.exit 0))
  (.seq (.block 1 (sr [od 13 (.indexAddr 7 (t 9) (t 11)),la 14 7 13,od 5 (.new 96 7 (.const zE)),ow (.store true 7 (t 5) (t 14))]
  (.drawn [fa 15 6 1,op 16 (.load false 1 (t 15)) [0],la 17 7 5,op 18 (.call 304 false (fc 343) [(t 17)]) [2],
 op 19 (.buildSlice 320 7 (.agg [i0,i0,i0,i0,.bool false,.str [],.nils]) 1 [(0,(t 18))]) [3],op 20 (.append 37 7 1737499856038 (t 16) (t 19)) [1,4,3],op 21 (.fieldAddr 6 (t 1)) (rg 6),⟨none,.store false 1 (t 21) (t 20),none,([6,5,5]++rg 6)⟩])))
  (rn [ad 22 11 1,mv 11 22]))))
def IW:al:=
 (sr [od 1 (.new 32 7 (t 0)),od 2 (.new 48 7 (.const zE))]
 (sr [fa 6 6 1,ld 7 6,mv 3 7]
 (sr [fa 8 6 1,ow (.store false 1 (t 8) (.const (.nils)))]
 (.seq (sr [mv 9 3,ln 10 9,mc 11 0]
 (.block 0 (.loop EN)))
 (sr [la 23 7 1,ow (.store true 7 (t 2) (t 23))]
 .ret)))))
def Nd:aB:=⟨1,24,[],[.cell 2 true 7],IW,none⟩
abbrev EO:al:=
  (sr [od 62 (.bin .lss (t 61) (ic 2))]
  (.seq (.cond (t 62)
  .skip
  (.exit 2))
  (.seq (.block 3 (sr [mv 63 61,mv 10 63]
  (sr [mv 64 0,fa 65 6 3,ld 66 65,mv 67 10,
 od 68 (.indexAddr 7 (t 66) (t 67)),la 69 7 68,ca 70 1136 340 [(t 64),(t 69)],od 71 (.field false 0 1 (t 70)),
 eq 72 71 1]
  (.cond (t 72)
  (sr [mv 73 0,fa 74 6 3,ld 75 74,mv 76 10,
 od 77 (.bin .sub (ic 1) (t 76)),od 78 (.indexAddr 7 (t 75) (t 77)),la 79 7 78,ca 80 1296 344 [(t 73),(t 79)],
 ow (.store true 7 (t 4) (t 80))]
  .ret)
  .skip))))
  (rn [ad 81 61 1,mv 61 81]))))
abbrev EP:al:=
  (sr [od 85 (.bin .lss (t 84) (ic 2))]
  (.seq (.cond (t 85)
  .skip
  (.exit 4))
  (.seq (.block 5 (sr [mv 86 84,mv 11 86]
  (sr [mv 87 0,fa 88 6 3,ld 89 88,mv 90 11,
 od 91 (.indexAddr 7 (t 89) (t 90)),la 92 7 91,ca 93 1504 340 [(t 87),(t 92)],od 94 (.field false 1 1 (t 93)),
 eq 95 94 0]
  (.cond (t 95)
  (sr [mv 96 0,fa 97 6 3,ld 98 97,mv 99 11,
 od 100 (.bin .sub (ic 1) (t 99)),od 101 (.indexAddr 7 (t 98) (t 100)),la 102 7 101,ca 103 1664 344 [(t 96),(t 102)],
 ow (.store true 7 (t 4) (t 103))]
  .ret)
  .skip))))
  (rn [ad 104 84 1,mv 84 104]))))
abbrev ER:al:=
  (sr [ls 111 110 109]
  (.seq (.cond (t 111)
  .skip
  (.exit 6))
  (.seq (.block 7 (sr [od 112 (.indexAddr 7 (t 108) (t 110)),la 113 7 112,od 14 (.new 240 7 (.const zE)),ow (.store true 7 (t 14) (t 113))]
  (.drawn [fa 114 6 3,op 115 (.load false 1 (t 114)) [0],mv 116 0,la 117 7 14,
 op 118 (.call 1904 false (fc 344) [(t 116),(t 117)]) [2,3],op 119 (.buildSlice 1920 7 (.agg [i0,i0,i0,i0,.bool false,.str [],.nils]) 1 [(0,(t 118))]) [4],op 120 (.append 69 7 1737499856038 (t 115) (t 119)) [1,5,4],op 121 (.fieldAddr 6 (t 3)) (rg 7),
 ⟨none,.store false 1 (t 121) (t 120),none,([7,6,6]++rg 7)⟩])))
  (rn [ad 122 110 1,mv 110 122]))))
def IX:al:=
  (sr [od 3 (.new 64 7 (t 1)),od 4 (.new 80 7 (.const zE))]
  (sr [la 16 7 3,ca 17 288 338 [(t 16)],mv 15 17,xt 18 15 0,
 xt 19 15 1,mv 5 18,mv 6 19]
  (.seq (sr [mv 21 0,la 22 7 3,mv 23 5,ca 24 400 387 [(t 21),(t 22),(t 23)],
 mv 20 24,xt 25 20 0,xt 26 20 1,od 7 (.new 128 7 (.const zE)),
 ow (.store true 7 (t 7) (t 25)),mv 8 26]
  (sr [mv 27 8]
  (.cond (t 27)
  (sr [la 28 7 7,ow (.store true 7 (t 4) (t 28))]
  .ret)
  .skip)))
  (.seq (sr [fa 29 0 3,ld 30 29]
  (.block 0 (sr [eq 32 30 13,mv 31 32]
  (.cond (t 31)
  (sr [mv 33 0,fa 34 6 3,ld 35 34,od 36 (.indexAddr 7 (t 35) (ic 0)),
 la 37 7 36,ca 38 624 340 [(t 33),(t 37)],od 9 (.new 160 5 (.const (.agg [i0,i0,.lit 1 [],.bool false,.bool false]))),ow (.store true 5 (t 9) (t 38))]
  (.block 1 (sr [fa 40 0 9,ld 41 40,eq 42 41 1,mv 39 42]
  (.cond (t 39)
  (sr [mv 43 0,fa 44 6 3,ld 45 44,od 46 (.indexAddr 7 (t 45) (ic 1)),
 la 47 7 46,ca 48 784 344 [(t 43),(t 47)],ow (.store true 7 (t 4) (t 48))]
  .ret)
  (sr [fa 50 1 9,ld 51 50,eq 52 51 0,mv 49 52]
  (.cond (t 49)
  (sr [mv 53 0,fa 54 6 3,ld 55 54,od 56 (.indexAddr 7 (t 55) (ic 2)),
 la 57 7 56,ca 58 944 344 [(t 53),(t 57)],ow (.store true 7 (t 4) (t 58))]
  .ret)
  .skip))))))
  (sr [eq 60 30 4,mv 59 60]
  (.cond (t 59)
  (sr [mc 61 0]
  (.block 2 (.loop EO)))
  (sr [eq 83 30 5,mv 82 83]
  (.cond (t 82)
  (sr [mc 84 0]
  (.block 4 (.loop EP)))
  .skip))))))))
  (sr [fa 105 6 3,ld 106 105,mv 12 106]
  (sr [fa 107 6 3,ow (.store false 1 (t 107) (.const (.nils)))]
  (.seq (sr [mv 108 12,ln 109 108,mc 110 0]
  (.block 6 (.loop ER)))
  (sr [la 123 7 3,ow (.store true 7 (t 4) (t 123))]
  .ret))))))))
def Nf:aB:=⟨2,124,[],[.cell 4 true 7],IX,none⟩
abbrev ES:al:=
  (sr [ls 9 8 7]
  (.seq (.cond (t 9)
  .skip
  (.exit 0))
  (.seq (.block 1 (sr [mv 10 8,mv 5 10]
  (sr [mv 11 1,mv 12 0,mv 13 5,od 14 (.indexAddr 4 (t 12) (t 13)),
 la 15 4 14,od 16 (.call 272 false (t 11) [(t 15)])]
  (.cond (t 16)
  (sr [mv 17 5,mv 4 17]
  .ret)
  .skip))))
  (rn [ad 18 8 1,mv 8 18]))))
def IY:al:=
 (sr [mc 4 0]
 (.seq (sr [mv 6 0,ln 7 6,mc 8 0]
 (.block 0 (.loop ES)))
 (sr [mc 4 (-1)]
 .ret)))
def Ng:aB:=⟨2,19,[],[.tmp 4],IY,none⟩
def IZ:al:=
 (sr [od 2 (.new 48 4 (.const (.agg [i0,i0,.bool false,.str []])))]
 (.seq (sr [mv 6 0]
 (.block 0 (sr [od 7 (.assert 3 true (i0) (t 6)),xt 8 7 1,xt 9 7 0]
 (.cond (t 8)
 (sr [mv 3 9]
 (sr [mv 10 3,od 11 (.build [i0,i0,.bool false,.str []] [(0,1,(ic 1)),(1,1,(t 10))]),ow (.store true 4 (t 2) (t 11))]
 .ret))
 (sr [od 12 (.assert 4 true (.bool false) (t 6)),xt 13 12 1,xt 14 12 0]
 (.cond (t 13)
 (sr [mv 4 14]
 (sr [mv 15 4,od 16 (.build [i0,i0,.bool false,.str []] [(0,1,(ic 2)),(2,1,(t 15))]),ow (.store true 4 (t 2) (t 16))]
 .ret))
 (sr [od 17 (.assert 9 true (.str []) (t 6)),xt 18 17 1,xt 19 17 0]
 (.cond (t 18)
 (sr [mv 5 19]
 (sr [mv 20 5,od 21 (.build [i0,i0,.bool false,.str []] [(0,1,(ic 3)),(3,1,(t 20))]),ow (.store true 4 (t 2) (t 21))]
 .ret))
 .skip))))))))
 (sr [od 22 (.build [i0,i0,.bool false,.str []] []),ow (.store true 4 (t 2) (t 22))]
 .ret)))
def Nh:aB:=⟨1,23,[],[.cell 2 true 4],IZ,none⟩
abbrev ET:al:=
  (sr [ls 15 14 13]
  (.seq (.cond (t 15)
  .skip
  (.exit 0))
  (.seq (.block 1 (sr [od 16 (.indexAddr 7 (t 12) (t 14)),la 17 7 16,od 7 (.new 128 7 (.const zE)),ow (.store true 7 (t 7) (t 17))]
  (rn [mv 18 5,la 19 7 7,la 20 9 3,ca 21 352 392 [(t 19),(t 20)],
 od 22 (.buildSlice 368 1 (.nili) 1 [(0,(t 21))]),od 23 (.append 97 1 8278675785407 (t 18) (t 22)),od 5 (.il 97 (t 23))])))
  (rn [ad 24 14 1,mv 14 24]))))
def I0:al:=
  (sr [od 2 (.new 48 7 (t 0)),od 3 (.new 64 9 (t 1)),od 4 (.move (.const (.nili)))]
  (sr [od 5 (.bU 97 1)]
  (.seq (sr [fa 11 6 2,ld 12 11,ln 13 12,mc 14 0]
  (.block 0 (.loop ET)))
  (.seq (sr [fa 25 0 2,ld 26 25,eq 27 26 6]
  (.cond (t 27)
  (.seq (.drawn [mv 28 5,op 29 (.indexAddr 1 (t 28) (ic 0)) [0],op 30 (.load false 1 (t 29)) [1],mv 31 5,
 op 32 (.indexAddr 1 (t 31) (ic 1)) [3],op 33 (.load false 1 (t 32)) [4],op 34 (.L4 false [(2,1),(3,1),(4,0),(5,1),(6,1),(9,2),(10,2),(11,2),(12,1),(21,1)] (t 30) (t 33)) [2,5],op 35 (.b6 4 (t 34)) [6],
 op 4 (.move (t 35)) ([7]++rg 8)])
  .ret)
  .skip))
  (.seq (sr [mv 36 5,ln 37 36,eq 38 37 0]
  (.cond (t 38)
  (.seq (sr [fa 39 0 2,ld 40 39,eq 41 40 2]
  (.cond (t 41)
  (sr [la 42 9 3,fa 43 1 2,ld 44 43,ca 45 736 405 [(t 42),(t 44)],
 mv 4 45]
  .ret)
  .skip))
  (sr [fa 46 2 2,la 47 4 46,ca 48 784 404 [(t 47)],mv 4 48]
  .ret))
  .skip))
  (.seq (sr [mv 49 5,od 50 (.indexAddr 1 (t 49) (ic 0)),ld 51 50]
  (.block 2 (sr [od 52 (.assert 4 true (.bool false) (t 51)),xt 53 52 1,xt 54 52 0]
  (.cond (t 53)
  (sr [mv 8 54]
  (.seq (sr [fa 55 0 2,ld 56 55]
  (.block 3 (sr [eq 58 56 3,mv 57 58]
  (.cond (t 57)
  (sr [mv 59 8,od 60 (.un .not (t 59)),od 61 (.b6 4 (t 60)),mv 4 61]
  .ret)
  (sr [eq 63 56 4,mv 62 63]
  (.cond (t 62)
  (sr [mv 64 8,mv 65 64,og 66 (.move (t 5)) 65 true,og 67 (.indexAddr 1 (t 66) (ic 1)) 65 true,
 og 68 (.load false 1 (t 67)) 65 true,og 69 (.assert 4 false (.bool false) (t 68)) 65 true,od 70 (.pick (t 65) (t 69) (.const (.bool false))),od 71 (.b6 4 (t 70)),
 mv 4 71]
  .ret)
  (sr [eq 73 56 5,mv 72 73]
  (.cond (t 72)
  (sr [mv 74 8,mv 75 74,og 76 (.move (t 5)) 75 false,og 77 (.indexAddr 1 (t 76) (ic 1)) 75 false,
 og 78 (.load false 1 (t 77)) 75 false,og 79 (.assert 4 false (.bool false) (t 78)) 75 false,od 80 (.pick (t 75) (.const (.bool true)) (t 79)),od 81 (.b6 4 (t 80)),
 mv 4 81]
  .ret)
  .skip))))))))
  (.seq (sr [mv 82 8]
  (.cond (t 82)
  (sr [mv 83 5,od 84 (.indexAddr 1 (t 83) (ic 1)),ld 85 84,mv 4 85]
  .ret)
  .skip))
  (sr [mv 86 5,od 87 (.indexAddr 1 (t 86) (ic 2)),ld 88 87,mv 4 88]
  .ret))))
  (sr [od 89 (.assert 3 true (i0) (t 51)),xt 90 89 1,xt 91 89 0]
  (.cond (t 90)
  (sr [mv 9 91]
  (sr [mv 92 5,od 93 (.indexAddr 1 (t 92) (ic 1)),ld 94 93,od 95 (.assert 3 false (i0) (t 94)),
 mv 10 95]
  (.seq (sr [fa 96 0 2,ld 97 96]
  (.block 4 (sr [eq 99 97 7,mv 98 99]
  (.cond (t 98)
  (sr [mv 100 9,mv 101 10,ls 102 100 101,od 103 (.b6 4 (t 102)),
 mv 4 103]
  .ret)
  (sr [eq 105 97 8,mv 104 105]
  (.cond (t 104)
  (sr [mv 106 9,mv 107 10,od 108 (.bin .add (t 106) (t 107)),ca 109 1760 418 [(t 108)],
 od 110 (.b6 3 (t 109)),mv 4 110]
  .ret)
  (sr [eq 112 97 9,mv 111 112]
  (.cond (t 111)
  (sr [mv 113 9,mv 114 10,od 115 (.bin .sub (t 113) (t 114)),ca 116 1872 418 [(t 115)],
 od 117 (.b6 3 (t 116)),mv 4 117]
  .ret)
  (sr [eq 119 97 10,mv 118 119]
  (.cond (t 118)
  (sr [mv 120 9,mv 121 10,od 122 (.bin .mul (t 120) (t 121)),ca 123 1984 418 [(t 122)],
 od 124 (.b6 3 (t 123)),mv 4 124]
  .ret)
  (sr [eq 126 97 11,mv 125 126]
  (.cond (t 125)
  (sr [mv 127 9,mv 128 10,od 129 (.min [(t 127),(t 128)]),od 130 (.b6 3 (t 129)),
 mv 4 130]
  .ret)
  .skip))))))))))))
  (sr [mv 131 9,mv 132 10,od 133 (.max [(t 131),(t 132)]),od 134 (.b6 3 (t 133)),
 mv 4 134]
  .ret))))
  .skip))))))
  (sr [od 4 (.move (.const (.nili)))]
  .ret)))))))
def Ni:aB:=⟨2,135,[],[.tmp 4],I0,none⟩
abbrev EU:al:=
  (sr [ls 9 8 7]
  (.seq (.cond (t 9)
  .skip
  (.exit 0))
  (.seq (.block 1 (sr [mv 10 8,mv 5 10]
  (sr [mv 11 1,mv 12 0,mv 13 5,od 14 (.indexAddr 1 (t 12) (t 13)),
 ld 15 14,od 16 (.bin .eql (t 11) (t 15))]
  (.cond (t 16)
  (sr [mv 17 5,mv 4 17]
  .ret)
  .skip))))
  (rn [ad 18 8 1,mv 8 18]))))
def I1:al:=
 (sr [mc 4 0]
 (.seq (sr [mv 6 0,ln 7 6,mc 8 0]
 (.block 0 (.loop EU)))
 (sr [mc 4 (-1)]
 .ret)))
def Nj:aB:=⟨2,19,[],[.tmp 4],I1,none⟩
def I2:al:=
 (sr [od 0 (.new 16 5 (.const (.agg [i0,i0,.lit 1 [],.bool false,.bool false])))]
 (sr [od 1 (.build [i0,i0,.lit 1 [],.bool false,.bool false] [(0,1,(ic 1)),(1,1,(ic 1))]),ow (.store true 5 (t 0) (t 1))]
 .ret))
def Nk:aB:=⟨0,2,[],[.cell 0 true 5],I2,none⟩
def I3:al:=
 (sr [od 0 (.new 16 5 (.const (.agg [i0,i0,.lit 1 [],.bool false,.bool false])))]
 (sr [od 1 (.build [i0,i0,.lit 1 [],.bool false,.bool false] []),ow (.store true 5 (t 0) (t 1))]
 .ret))
def Nl:aB:=⟨0,2,[],[.cell 0 true 5],I3,none⟩
def I4:al:=
  (sr [od 2 (.new 48 2 (t 0)),od 3 (.new 64 2 (t 1)),od 4 (.new 80 2 (.const (.agg [i0,i0])))]
  (sr [fa 5 0 2,ld 6 5,fa 7 0 3,ld 8 7,
 od 9 (.bin .sub (t 6) (t 8)),fa 10 1 2,ld 11 10,fa 12 1 3,
 ld 13 12,od 14 (.bin .sub (t 11) (t 13)),od 15 (.build [i0,i0] [(0,1,(t 9)),(1,1,(t 14))]),ow (.store true 2 (t 4) (t 15))]
  .ret))
def f161:aB:=⟨2,16,[],[.cell 4 true 2],I4,none⟩
abbrev EV:al:=
  (.seq (sr [mv 9 5,od 10 (.bin .gtr (t 9) (ic 0)),mv 11 10,og 12 (.move (t 0)) 11 true,
 og 13 (.move (t 5)) 11 true,og 14 (.bin .sub (t 13) (ic 1)) 11 true,og 15 (.indexAddr 1 (t 12) (t 14)) 11 true,og 16 (.load false 1 (t 15)) 11 true,
 og 17 (.move (t 1)) 11 true,og 18 (.bin .geq (t 16) (t 17)) 11 true,od 19 (.pick (t 11) (t 18) (.const (.bool false)))]
  (.cond (t 19)
  .skip
  (.exit 0)))
  (.block 1 (rn [mv 20 5,od 21 (.bin .sub (t 20) (ic 1)),mv 5 21])))
def I5:al:=
  (sr [od 4 (.move (.const (.lit 1 [])))]
  (sr [mv 7 0,ln 8 7,mv 5 8]
  (.seq (.block 0 (.loop EV))
  (.seq (sr [mv 22 5,mv 23 0,ln 24 23,ls 25 22 24,
 mv 26 25,og 27 (.move (t 0)) 26 true,og 28 (.move (t 5)) 26 true,og 29 (.indexAddr 1 (t 27) (t 28)) 26 true,
 og 30 (.load false 1 (t 29)) 26 true,og 31 (.move (t 1)) 26 true,og 32 (.bin .eql (t 30) (t 31)) 26 true,od 33 (.pick (t 26) (t 32) (.const (.bool false)))]
  (.cond (t 33)
  (sr [mv 34 0,mv 4 34]
  .ret)
  .skip))
  (sr [od 35 (.buildSlice 576 1 (i0) 0 []),mv 36 0,mv 37 5,od 38 (.slice 1 (t 36) none (some (t 37)) none),
 od 39 (.append 640 1 15637498705947 (t 35) (t 38)),od 6 (.il 113 (t 39))]
  (.seq (.drawn [mv 40 6,mv 41 1,op 42 (.buildSlice 688 1 (i0) 1 [(0,(t 41))]) [1],op 43 (.append 113 1 15637498705947 (t 40) (t 42)) [0,2],
 mv 44 0,mv 45 5,op 46 (.slice 1 (t 44) (some (t 45)) none none) [4,5],op 47 (.append 768 1 15637498705947 (t 43) (t 46)) [3,6,3],
 op 4 (.move (t 47)) ([7,7]++rg 8)])
  .ret))))))
def f162:aB:=⟨2,48,[],[.tmp 4],I5,none⟩
abbrev EW:al:=
  (.seq (sr [mv 26 7,mv 27 0,mv 28 6,od 29 (.indexAddr 4 (t 27) (t 28)),
 fa 30 1 29,ld 31 30,ln 32 31,ls 33 26 32]
  (.cond (t 33)
  .skip
  (.exit 2)))
  (.seq (.block 3 (sr [mv 36 0,mv 37 6,od 38 (.indexAddr 4 (t 36) (t 37)),fa 39 1 38,
 ld 40 39,mv 41 7,od 42 (.indexAddr 3 (t 40) (t 41)),la 43 3 42,
 ca 44 720 198 [(t 43)],od 45 (.un .not (t 44))]
  (.cond (t 45)
  (sr [mc 4 0,od 5 (.move (.const (.bool false)))]
  .ret)
  .skip)))
  (rn [mv 34 7,ad 35 34 1,mv 7 35])))
abbrev EX:al:=
 (.seq (sr [mv 20 6,mv 21 0,ln 22 21,ls 23 20 22]
 (.cond (t 23)
 .skip
 (.exit 0)))
 (.seq (.block 1 (sr [mc 7 0]
 (.block 2 (.loop EW))))
 (rn [mv 24 6,ad 25 24 1,mv 6 25])))
abbrev EY:al:=
  (.seq (sr [mv 52 11,ad 53 52 1,mv 54 0,mv 55 10,
 od 56 (.indexAddr 4 (t 54) (t 55)),fa 57 1 56,ld 58 57,ln 59 58,
 ls 60 53 59]
  (.cond (t 60)
  .skip
  (.exit 6)))
  (.seq (.block 7 (sr [mv 63 0,mv 64 10,od 65 (.indexAddr 4 (t 63) (t 64)),fa 66 1 65,
 ld 67 66,mv 68 11,od 69 (.indexAddr 3 (t 67) (t 68)),la 70 3 69,
 od 12 (.new 208 3 (.const (.agg [i0,i0,i0]))),ow (.store true 3 (t 12) (t 70))]
  (sr [mv 71 0,mv 72 10,od 73 (.indexAddr 4 (t 71) (t 72)),fa 74 1 73,
 ld 75 74,mv 76 11,ad 77 76 1,od 78 (.indexAddr 3 (t 75) (t 77)),
 la 79 3 78,od 13 (.new 224 3 (.const (.agg [i0,i0,i0]))),ow (.store true 3 (t 13) (t 79))]
  (.seq (sr [la 80 3 12,la 81 3 13,la 82 2 3,ca 83 1344 200 [(t 80),(t 81),(t 82)]]
  (.cond (t 83)
  (sr [mc 4 0,od 5 (.move (.const (.bool false)))]
  .ret)
  .skip))
  (sr [la 84 3 12,la 85 3 13,la 86 2 3,ca 87 1408 201 [(t 84),(t 85),(t 86)],
 mv 14 87]
  (.seq (.drawn [la 88 3 12,la 89 3 13,mv 90 0,mv 91 10,
 op 92 (.indexAddr 4 (t 90) (t 91)) [2,3],op 93 (.fieldAddr 3 (t 92)) [4],op 94 (.load false 1 (t 93)) [5],op 95 (.build [i0,i0,i0,i0,i0,i0,i0] [(0,3,(t 88)),(3,3,(t 89)),(6,1,(t 94))]) [0,1,6],
 od 15 (.new 256 7 (.const (.agg [i0,i0,i0,i0,i0,i0,i0]))),⟨none,.store true 7 (t 15) (t 95),none,([8,7]++rg 9)⟩])
  (.seq (sr [mv 96 14,od 97 (.bin .lss (t 96) (ic 0))]
  (.cond (t 97)
  (.drawn [la 98 3 13,la 99 3 12,mv 100 0,mv 101 10,
 op 102 (.indexAddr 4 (t 100) (t 101)) [2,3],op 103 (.fieldAddr 2 (t 102)) [4],op 104 (.load false 1 (t 103)) [5],op 105 (.build [i0,i0,i0,i0,i0,i0,i0] [(0,3,(t 98)),(3,3,(t 99)),(6,1,(t 104))]) [0,1,6],
 ⟨none,.store true 7 (t 15) (t 105),none,([7]++rg 8)⟩])
  .skip))
  (sr [mv 106 14,od 107 (.bin .neq (t 106) (ic 0)),mv 108 107,og 109 (.move (t 8)) 108 true,
 og 110 (.un .not (t 109)) 108 true,og 111 (.move (t 110)) 108 true,og 112 (.load true 7 (t 9)) 111 false,og 113 (.load true 7 (t 15)) 111 false,
 og 114 (.call 1840 false (fc 202) [(t 112),(t 113)]) 111 false,og 115 (.pick (t 111) (.const (.bool true)) (t 114)) 108 true,od 116 (.pick (t 108) (t 115) (.const (.bool false)))]
  (.cond (t 116)
  (sr [od 8 (.move (.const (.bool true)))]
  (rn [la 117 7 15,ow (.store true 7 (t 9) (t 117))]))
  .skip)))))))))
  (rn [mv 61 11,ad 62 61 1,mv 11 62])))
abbrev EZ:al:=
 (.seq (sr [mv 46 10,mv 47 0,ln 48 47,ls 49 46 48]
 (.cond (t 49)
 .skip
 (.exit 4)))
 (.seq (.block 5 (sr [mc 11 0]
 (.block 6 (.loop EY))))
 (rn [mv 50 10,ad 51 50 1,mv 10 51])))
def I6:al:=
 (sr [od 3 (.new 64 2 (t 1)),mc 4 0,od 5 (.move (.const (.bool false)))]
 (.seq (sr [la 16 2 3,ca 17 288 199 [(t 16)],ca 18 304 198 [(t 17)],od 19 (.un .not (t 18))]
 (.cond (t 19)
 (sr [mc 4 0,od 5 (.move (.const (.bool false)))]
 .ret)
 .skip))
 (.seq (sr [mc 6 0]
 (.block 0 (.loop EX)))
 (sr [od 8 (.move (.const (.bool false)))]
 (sr [od 9 (.new 160 7 (.const (.agg [i0,i0,i0,i0,i0,i0,i0])))]
 (.seq (sr [mc 10 0]
 (.block 4 (.loop EZ)))
 (sr [fa 118 6 9,ld 119 118,mv 4 119,od 5 (.move (.const (.bool true)))]
 .ret)))))))
def f163:aB:=⟨2,120,[],[.tmp 4,.tmp 5],I6,none⟩
abbrev E0:al:=
  (.seq (sr [mv 29 6,mv 30 0,mv 31 4,od 32 (.indexAddr 4 (t 30) (t 31)),
 fa 33 1 32,ld 34 33,ln 35 34,ls 36 29 35]
  (.cond (t 36)
  .skip
  (.exit 2)))
  (.seq (.block 3 (.drawn [fa 39 1 5,op 40 (.load false 1 (t 39)) [0],mv 41 0,mv 42 4,
 op 43 (.indexAddr 4 (t 41) (t 42)) [2,3],op 44 (.fieldAddr 1 (t 43)) [4],op 45 (.load false 1 (t 44)) [5],mv 46 6,
 op 47 (.indexAddr 2 (t 45) (t 46)) [6,7],op 48 (.load true 2 (t 47)) [8],op 49 (.call 800 false (fc 199) [(t 48)]) [9],op 50 (.buildSlice 816 3 (.agg [i0,i0,i0]) 1 [(0,(t 49))]) [10],
 op 51 (.append 99 3 5629499534013 (t 40) (t 50)) [1,11,10],op 52 (.fieldAddr 1 (t 5)) (rg 13),⟨none,.store false 1 (t 52) (t 51),none,([13,12,12]++rg 13)⟩]))
  (rn [mv 37 6,ad 38 37 1,mv 6 38])))
abbrev E1:al:=
  (.seq (sr [mv 7 4,mv 8 0,ln 9 8,ls 10 7 9]
  (.cond (t 10)
  .skip
  (.exit 0)))
  (.seq (.block 1 (.seq (.drawn [mv 13 0,mv 14 4,op 15 (.indexAddr 4 (t 13) (t 14)) [0,1],op 16 (.fieldAddr 0 (t 15)) [2],
 op 17 (.load false 1 (t 16)) [3],mv 18 0,mv 19 4,op 20 (.indexAddr 4 (t 18) (t 19)) [5,6],
 op 21 (.fieldAddr 2 (t 20)) [7],op 22 (.load false 1 (t 21)) [8],mv 23 0,mv 24 4,
 op 25 (.indexAddr 4 (t 23) (t 24)) [10,11],op 26 (.fieldAddr 3 (t 25)) [12],op 27 (.load false 1 (t 26)) [13],op 28 (.build [i0,.nils,i0,i0] [(0,1,(t 17)),(2,1,(t 22)),(3,1,(t 27))]) [4,9,14],
 od 5 (.new 96 4 (.const (.agg [i0,.nils,i0,i0]))),⟨none,.store true 4 (t 5) (t 28),none,([16,15]++rg 17)⟩])
  (.seq (sr [mc 6 0]
  (.block 2 (.loop E0)))
  (rn [mv 53 3,la 54 4 5,od 55 (.buildSlice 896 4 (.agg [i0,.nils,i0,i0]) 1 [(0,(t 54))]),od 56 (.append 65 4 2872193639704 (t 53) (t 55)),
 od 3 (.il 65 (t 56))]))))
  (rn [mv 11 4,ad 12 11 1,mv 4 12])))
def I7:al:=
 (sr [od 2 (.bU 49 4)]
 (sr [od 3 (.bU 65 4)]
 (.seq (sr [mc 4 0]
 (.block 0 (.loop E1)))
 (sr [mv 57 3,mv 2 57]
 .ret))))
def f164:aB:=⟨1,58,[],[.tmp 2],I7,none⟩
def Nm:al:=
 (sr [od 2 (.move (.const (.float 0)))]
 (sr [mv 3 0,ca 4 80 52 [(t 3)],mv 2 4]
 .ret))
def f41:aB:=⟨1,5,[],[.tmp 2],Nm,none⟩
abbrev E2:al:=
  (sr [ls 10 9 8]
  (.seq (.cond (t 10)
  .skip
  (.exit 0))
  (.seq (.block 1 (sr [od 11 (.indexAddr 7 (t 7) (t 9)),la 12 7 11,od 5 (.new 96 7 (.const zE)),ow (.store true 7 (t 5) (t 12))]
  (rn [mv 13 3,la 14 7 5,ca 15 256 370 [(t 14)],od 16 (.bin .add (t 13) (t 15)),
 mv 3 16])))
  (rn [ad 17 9 1,mv 9 17]))))
def I8:al:=
 (sr [od 1 (.new 32 7 (t 0)),mc 2 0]
 (sr [mc 3 1]
 (.seq (sr [fa 6 6 1,ld 7 6,ln 8 7,mc 9 0]
 (.block 0 (.loop E2)))
 (sr [mv 18 3,mv 2 18]
 .ret))))
def Nn:aB:=⟨1,19,[],[.tmp 2],I8,none⟩
abbrev E3:al:=
  (sr [ls 46 45 44]
  (.seq (.cond (t 46)
  .skip
  (.exit 0))
  (.seq (.block 1 (sr [od 47 (.indexAddr 7 (t 43) (t 45)),la 48 7 47,od 7 (.new 128 7 (.const zE)),ow (.store true 7 (t 7) (t 48))]
  (sr [la 49 7 7,ca 50 816 371 [(t 49)],mv 8 50]
  (.seq (sr [mv 51 8,eq 52 51 0]
  (.cond (t 52)
  (sr [mc 2 0]
  .ret)
  .skip))
  (rn [ld 53 5,mv 54 8,od 55 (.buildSlice 896 1 (i0) 1 [(0,(t 54))]),od 56 (.append 912 1 15637498705947 (t 53) (t 55)),
 ow (.store false 1 (t 5) (t 56))])))))
  (rn [ad 57 45 1,mv 45 57]))))
def I9:al:=
  (sr [od 1 (.new 32 7 (t 0)),mc 2 0]
  (sr [fa 11 0 1,ld 12 11,ca 13 224 401 [(t 12)],mv 10 13,
 xt 14 10 0,xt 15 10 1,mv 3 14,mv 4 15]
  (.seq (sr [mv 16 4,fa 17 6 1,ld 18 17,ln 19 18,
 od 20 (.bin .neq (t 16) (t 19)),mv 21 20,og 22 (.fieldAddr 0 (t 1)) 21 false,og 23 (.load false 1 (t 22)) 21 false,
 og 24 (.bin .neq (t 23) (ic 1)) 21 false,og 25 (.move (t 24)) 21 false,og 26 (.fieldAddr 2 (t 1)) 25 true,og 27 (.load true 4 (t 26)) 25 true,
 og 28 (.build [i0,i0,.bool false,.str []] []) 25 true,og 29 (.D6 true [1,1,0,2] (t 27) (t 28)) 25 true,og 30 (.pick (t 25) (t 29) (.const (.bool false))) 21 false,od 31 (.pick (t 21) (.const (.bool true)) (t 30)),
 mv 32 31,og 33 (.fieldAddr 0 (t 1)) 32 false,og 34 (.load false 1 (t 33)) 32 false,og 35 (.bin .neq (t 34) (ic 2)) 32 false,
 og 36 (.move (t 35)) 32 false,og 37 (.fieldAddr 1 (t 1)) 36 true,og 38 (.load false 1 (t 37)) 36 true,og 39 (.bin .neq (t 38) (ic 0)) 36 true,
 og 40 (.pick (t 36) (t 39) (.const (.bool false))) 32 false,od 41 (.pick (t 32) (.const (.bool true)) (t 40))]
  (.cond (t 41)
  (sr [mc 2 0]
  .ret)
  .skip))
  (sr [od 5 (.new 96 1 (.const (.nils)))]
  (.seq (sr [fa 42 6 1,ld 43 42,ln 44 43,mc 45 0]
  (.block 0 (.loop E3)))
  (sr [od 58 (.im 402 [(t 5)]),mv 9 58]
  (.seq (.block 2 (sr [fa 60 0 1,ld 61 60,eq 62 61 1,mv 59 62]
  (.cond (t 59)
  (sr [fa 63 2 1,la 64 4 63,ca 65 1056 404 [(t 64)],ca 66 1072 391 [(t 65)],
 od 67 (.field false 0 1 (t 66)),mv 2 67]
  .ret)
  (sr [fa 69 0 1,ld 70 69,eq 71 70 2,mv 68 71]
  (.cond (t 68)
  (sr [od 72 (.build [i0,.str [],.str [],i0,i0,.bool false,i0,i0,i0] []),fa 73 1 1,ld 74 73,ca 75 1216 405 [(t 72),(t 74)],
 ca 76 1232 391 [(t 75)],od 77 (.field false 0 1 (t 76)),mv 2 77]
  .ret)
  (.seq (sr [mv 79 3,eq 80 79 1,mv 81 80,og 82 (.move (t 9)) 81 true,
 og 83 (.call 1344 false (t 82) [(ic 2)]) 81 true,od 84 (.pick (t 81) (t 83) (.const (.bool false))),mv 78 84]
  (.cond (t 78)
  .skip
  (.seq (.drawn [mv 85 3,op 86 (.bin .eql (t 85) (ic 2)) [0],op 87 (.move (t 86)) [1],⟨some 88,.load false 1 (t 5),some (87,true),[2]⟩,
 ⟨some 89,.indexAddr 1 (t 88) (ic 0),some (87,true),[3,2]⟩,⟨some 90,.load false 1 (t 89),some (87,true),[4,2]⟩,⟨some 91,.load false 1 (t 5),some (87,true),[2]⟩,⟨some 92,.indexAddr 1 (t 91) (ic 1),some (87,true),[6,2]⟩,
 ⟨some 93,.load false 1 (t 92),some (87,true),[7,2]⟩,⟨some 94,.bin .eql (t 90) (t 93),some (87,true),[5,8,2]⟩,op 95 (.pick (t 87) (t 94) (.const (.bool false))) [2,9],op 78 (.move (t 95)) [10,2]])
  (.cond (t 78)
  .skip
  (rn [mv 96 3,eq 97 96 3,mv 98 97,og 99 (.move (t 9)) 98 true,
 og 100 (.call 1616 false (t 99) [(ic 1)]) 98 true,od 101 (.pick (t 98) (t 100) (.const (.bool false))),mv 78 101])))))
  (.cond (t 78)
  (sr [mc 2 2]
  .ret)
  (sr [mv 103 3,eq 104 103 4,mv 105 104,og 106 (.move (t 9)) 105 true,
 og 107 (.call 1728 false (t 106) [(ic 1)]) 105 true,od 108 (.pick (t 105) (t 107) (.const (.bool false))),mv 102 108]
  (.cond (t 102)
  (sr [mc 2 1]
  .ret)
  (.seq (.drawn [mv 110 3,op 111 (.bin .eql (t 110) (ic 5)) [0],op 112 (.move (t 111)) [1],⟨some 113,.load false 1 (t 5),some (112,true),[2]⟩,
 ⟨some 114,.indexAddr 1 (t 113) (ic 0),some (112,true),[3,2]⟩,⟨some 115,.load false 1 (t 114),some (112,true),[4,2]⟩,⟨some 116,.bin .eql (t 115) (ic 2),some (112,true),[5,2]⟩,op 117 (.pick (t 112) (t 116) (.const (.bool false))) [2,6],
 op 118 (.move (t 117)) [7,2],⟨some 119,.load false 1 (t 5),some (118,true),[8]⟩,⟨some 120,.indexAddr 1 (t 119) (ic 1),some (118,true),[9,8]⟩,⟨some 121,.load false 1 (t 120),some (118,true),[10,8]⟩,
 ⟨some 122,.load false 1 (t 5),some (118,true),[8]⟩,⟨some 123,.indexAddr 1 (t 122) (ic 2),some (118,true),[12,8]⟩,⟨some 124,.load false 1 (t 123),some (118,true),[13,8]⟩,⟨some 125,.bin .eql (t 121) (t 124),some (118,true),[11,14,8]⟩,
 op 126 (.pick (t 118) (t 125) (.const (.bool false))) [8,15],op 109 (.move (t 126)) [16,8]])
  (.cond (t 109)
  (sr [ld 127 5,od 128 (.indexAddr 1 (t 127) (ic 1)),ld 129 128,mv 2 129]
  .ret)
  .skip)))))))))))
  (sr [mc 2 0]
  .ret))))))))
def No:aB:=⟨1,130,[],[.tmp 2],I9,none⟩
abbrev E4:al:=
  (.seq (sr [mv 16 6,mv 17 0,ln 18 17,ls 19 16 18]
  (.cond (t 19)
  .skip
  (.exit 0)))
  (.seq (.block 1 (sr [mv 22 0,mv 23 6,od 24 (.indexAddr 4 (t 22) (t 23)),la 25 4 24,
 od 7 (.new 128 4 (.const (.agg [i0,i0,i0,.lit 1 []]))),ow (.store true 4 (t 7) (t 25))]
  (sr [mv 26 1,la 27 4 7,od 28 (.call 464 false (t 26) [(t 27)]),od 29 (.un .not (t 28))]
  (.cond (t 29)
  (sr [mv 30 0,mv 31 5,la 32 4 7,od 33 (.indexAddr 4 (t 30) (t 31)),
 ow (.store true 4 (t 33) (t 32))]
  (rn [mv 34 5,ad 35 34 1,mv 5 35]))
  .skip))))
  (rn [mv 20 6,ad 21 20 1,mv 6 21])))
def Ja:al:=
 (sr [od 4 (.move (.const (.lit 4 [])))]
 (sr [mv 8 0,mv 9 1,ca 10 176 390 [(t 8),(t 9)],mv 5 10]
 (.seq (sr [mv 11 5,eq 12 11 (-1)]
 (.cond (t 12)
 (sr [mv 13 0,mv 4 13]
 .ret)
 .skip))
 (.seq (sr [mv 14 5,ad 15 14 1,mv 6 15]
 (.block 0 (.loop E4)))
 (sr [mv 36 0,mv 37 5,od 38 (.slice 4 (t 36) (some (t 37)) none none),ow (.clear 4 (.agg [i0,i0,i0,.nils]) (t 38))]
 (sr [mv 39 0,mv 40 5,od 41 (.slice 4 (t 39) none (some (t 40)) none),mv 4 41]
 .ret))))))
def Np:aB:=⟨2,42,[some 4,none],[.tmp 4],Ja,none⟩
def Jb:al:=
  (sr [od 2 (.new 48 4 (t 0)),od 3 (.move (.const (.bool false)))]
  (sr [fa 4 0 2,ld 5 4,ld 6 1,od 7 (.bin .neq (t 5) (t 6)),
 mv 3 7]
  .ret))
def Nq:aB:=⟨2,8,[],[.tmp 3],Jb,none⟩
def Jc:al:=
  (sr [mc 2 0]
  (sr [mv 6 0,od 7 (.build [i0,i0,i0,i0,.bool false,.str [],.lit 7 []] [(0,1,(ic 2)),(1,1,(t 6))]),ca 8 144 338 [(t 7)],mv 5 8,
 xt 9 5 0,xt 10 5 1,mv 3 9,mv 4 10]
  (sr [mv 11 3,mv 2 11]
  .ret)))
def Nr:aB:=⟨1,12,[],[.tmp 2],Jc,none⟩
abbrev E5:al:=
  (sr [ls 18 17 16]
  (.seq (.cond (t 18)
  .skip
  (.exit 0))
  (.seq (.block 1 (sr [od 19 (.indexAddr 1 (t 15) (t 17)),ld 20 19,od 5 (.new 96 1 (.const (.str []))),ow (.store false 1 (t 5) (t 20))]
  (sr [mv 21 0,od 22 (.im 406 [(t 5)]),ca 23 384 346 [(t 21),(t 22)],od 24 (.un .not (t 23)),
 mv 6 24]
  (sr [mv 25 6,mv 26 25,og 27 (.fieldAddr 2 (t 3)) 26 true,og 28 (.load false 1 (t 27)) 26 true,
 og 29 (.load false 1 (t 5)) 26 true,og 30 (.call 496 false (fc 349) [(t 28),(t 29)]) 26 true,og 31 (.un .not (t 30)) 26 true,od 32 (.pick (t 26) (t 31) (.const (.bool false)))]
  (.cond (t 32)
  (rn [fa 33 2 3,ld 34 33,ld 35 5,od 36 (.buildSlice 592 1 (.str []) 1 [(0,(t 35))]),
 od 37 (.append 68 1 8278675785407 (t 34) (t 36)),fa 38 2 3,ow (.store false 1 (t 38) (t 37))])
  .skip)))))
  (rn [ad 39 17 1,mv 17 39]))))
def Jd:al:=
  (sr [od 2 (.new 48 5 (.const (.agg [i0,i0,.lit 1 [],.bool false,.bool false])))]
  (sr [od 7 (.build [i0,i0,.nils,.bool false,.bool false] [(4,1,(.const (.bool true)))]),od 3 (.new 64 5 (.const (.agg [i0,i0,.nils,.bool false,.bool false]))),ow (.store true 5 (t 3) (t 7))]
  (.seq (sr [mv 8 0,ln 9 8,eq 10 9 0]
  (.cond (t 10)
  (sr [la 11 5 3,ow (.store true 5 (t 2) (t 11))]
  .ret)
  .skip))
  (.seq (sr [mv 12 0,od 13 (.indexAddr 4 (t 12) (ic 0)),fa 14 3 13,ld 15 14,
 ln 16 15,mc 17 0]
  (.block 0 (.loop E5)))
  (sr [fa 40 2 3,ld 41 40,ln 42 41,od 43 (.bin .gtr (t 42) (ic 0)),
 fa 44 3 3,ow (.store false 1 (t 44) (t 43))]
  (sr [la 45 5 3,ow (.store true 5 (t 2) (t 45))]
  .ret))))))
def Ns:aB:=⟨1,46,[],[.cell 2 true 5],Jd,none⟩
def Je:al:=
 (sr [od 0 (.new 16 5 (.const (.agg [i0,i0,.lit 1 [],.bool false,.bool false])))]
 (sr [od 1 (.build [i0,i0,.lit 1 [],.bool false,.bool false] [(1,1,(ic 1))]),ow (.store true 5 (t 0) (t 1))]
 .ret))
def Nt:aB:=⟨0,2,[],[.cell 0 true 5],Je,none⟩
abbrev E6:al:=
  (sr [ls 38 37 36]
  (.seq (.cond (t 38)
  .skip
  (.exit 0))
  (.seq (.block 1 (sr [od 39 (.indexAddr 1 (t 35) (t 37)),ld 40 39,mv 7 40]
  (sr [mv 41 5,mv 42 7,ca 43 704 349 [(t 41),(t 42)],od 44 (.un .not (t 43))]
  (.cond (t 44)
  (rn [mv 45 5,mv 46 7,od 47 (.buildSlice 768 1 (.str []) 1 [(0,(t 46))]),od 48 (.append 97 1 8278675785407 (t 45) (t 47)),
 od 5 (.il 97 (t 48))])
  .skip))))
  (rn [ad 49 37 1,mv 37 49]))))
def Jf:al:=
  (sr [od 2 (.new 48 5 (t 0)),od 3 (.new 64 5 (t 1)),od 4 (.new 80 5 (.const (.agg [i0,i0,.lit 1 [],.bool false,.bool false])))]
  (.seq (sr [fa 8 4 2,ld 9 8,od 10 (.un .not (t 9))]
  (.cond (t 10)
  (sr [fa 11 0 2,ld 12 11,fa 13 0 3,ld 14 13,
 od 15 (.min [(t 12),(t 14)]),fa 16 1 2,ld 17 16,fa 18 1 3,
 ld 19 18,od 20 (.max [(t 17),(t 19)]),od 21 (.build [i0,i0,.lit 1 [],.bool false,.bool false] [(0,1,(t 15)),(1,1,(t 20))]),ow (.store true 5 (t 4) (t 21))]
  .ret)
  .skip))
  (.seq (sr [fa 22 3 2,ld 23 22,od 24 (.un .not (t 23)),mv 25 24,
 og 26 (.fieldAddr 3 (t 3)) 25 false,og 27 (.load false 1 (t 26)) 25 false,og 28 (.un .not (t 27)) 25 false,od 29 (.pick (t 25) (.const (.bool true)) (t 28))]
  (.cond (t 29)
  (sr [od 30 (.build [i0,i0,.lit 1 [],.bool false,.bool false] [(4,1,(.const (.bool true)))]),ow (.store true 5 (t 4) (t 30))]
  .ret)
  .skip))
  (sr [fa 31 2 2,ld 32 31,od 33 (.call 544 true (fc 407) [(t 32)]),od 5 (.il 97 (t 33))]
  (.seq (sr [fa 34 2 3,ld 35 34,ln 36 35,mc 37 0]
  (.block 0 (.loop E6)))
  (sr [mv 50 5,od 51 (.build [i0,i0,.lit 1 [],.bool false,.bool false] [(2,1,(t 50)),(3,1,(.const (.bool true))),(4,1,(.const (.bool true)))]),ow (.store true 5 (t 4) (t 51))]
  .ret))))))
def Nu:aB:=⟨2,52,[],[.cell 4 true 5],Jf,none⟩
def Jg:al:=
  (sr [od 0 (.move (.const (.lit 2 [])))]
  (sr [od 1 (.build [i0,.nilfn] [(0,1,(ic 4)),(1,1,(fc 408))]),od 2 (.build [i0,.nilfn] [(0,1,(ic 5)),(1,1,(fc 409))]),od 3 (.build [i0,.nilfn] [(0,1,(ic 6)),(1,1,(fc 410))]),od 4 (.build [i0,.nilfn] [(0,1,(ic 7)),(1,1,(fc 411))]),
 od 5 (.build [i0,.nilfn] [(0,1,(ic 8)),(1,1,(fc 412))]),od 6 (.build [i0,.nilfn] [(0,1,(ic 9)),(1,1,(fc 413))]),od 7 (.build [i0,.nilfn] [(0,1,(ic 10)),(1,1,(fc 414))]),od 8 (.build [i0,.nilfn] [(0,1,(ic 11)),(1,1,(fc 408))]),
 od 9 (.build [i0,.nilfn] [(0,1,(ic 12)),(1,1,(fc 409))]),od 10 (.buildSlice 176 2 (.agg [i0,.nilfn]) 9 [(0,(t 1)),(1,(t 2)),(2,(t 3)),(3,(t 4)),(4,(t 5)),(5,(t 6)),(6,(t 7)),(7,(t 8)),(8,(t 9))]),mv 0 10]
  .ret))
def Nv:aB:=⟨0,11,[],[.tmp 0],Jg,none⟩
abbrev E7:al:=
  (sr [ls 9 8 7]
  (.seq (.cond (t 9)
  .skip
  (.exit 0))
  (.seq (.block 1 (sr [mv 10 8,mv 5 10]
  (sr [mv 11 1,mv 12 0,mv 13 5,od 14 (.indexAddr 2 (t 12) (t 13)),
 la 15 2 14,od 16 (.call 272 false (t 11) [(t 15)])]
  (.cond (t 16)
  (sr [mv 17 5,mv 4 17]
  .ret)
  .skip))))
  (rn [ad 18 8 1,mv 8 18]))))
def Jh:al:=
 (sr [mc 4 0]
 (.seq (sr [mv 6 0,ln 7 6,mc 8 0]
 (.block 0 (.loop E7)))
 (sr [mc 4 (-1)]
 .ret)))
def Nw:aB:=⟨2,19,[],[.tmp 4],Jh,none⟩
def Ji:al:=
  (sr [od 2 (.new 48 2 (t 0)),od 3 (.move (.const (.bool false)))]
  (sr [fa 4 0 2,ld 5 4,fa 6 0 1,ld 7 6,
 od 8 (.bin .eql (t 5) (t 7)),mv 3 8]
  .ret))
def Nx:aB:=⟨2,9,[],[.tmp 3],Ji,none⟩
abbrev E8:al:=
  (.seq (sr [mv 6 0,od 7 (.dN (t 6)),od 8 (.bin .gtr (t 7) (ic 0))]
  (.cond (t 8)
  .skip
  (.exit 0)))
  (.block 1 (.seq (sr [mv 9 0,od 10 (.cf (t 9) (ic 0)),od 11 (.bin .eql (t 10) (.const (.int .u8 32)))]
  (.cond (t 11)
  (sr [mv 12 0,od 13 (.dM (t 12) (some (ic 1)) none),mv 0 13]
  (.exit 1))
  .skip))
  (sr [mv 14 0,ca 15 256 431 [(t 14)],mv 5 15]
  (.seq (sr [mv 16 5,eq 17 16 0]
  (.cond (t 17)
  (sr [od 2 (.bU 49 1),od 3 (.move (.const (.bool false)))]
  .ret)
  .skip))
  (sr [mv 18 4,mv 19 0,mv 20 5,od 21 (.dM (t 19) none (some (t 20))),
 od 22 (.buildSlice 368 1 (.str []) 1 [(0,(t 21))]),od 23 (.append 81 1 8278675785407 (t 18) (t 22)),od 4 (.il 81 (t 23))]
  (rn [mv 24 0,mv 25 5,od 26 (.dM (t 24) (some (t 25)) none),mv 0 26])))))))
def Jj:al:=
 (sr [od 2 (.bU 49 1),od 3 (.move (.const (.bool false)))]
 (sr [od 4 (.bU 81 1)]
 (.seq (.block 0 (.loop E8))
 (sr [mv 27 4,mv 2 27,od 3 (.move (.const (.bool true)))]
 .ret))))
def Ny:aB:=⟨1,28,[],[.tmp 2,.tmp 3],Jj,none⟩
def Jk:al:=
  (sr [od 2 (.new 48 7 (.const zE))]
  (.seq (sr [mv 7 0,od 8 (.nilCheck (t 7)),fa 9 1 8,ld 10 9]
  (.cond (t 10)
  (sr [od 11 (.build [i0,i0,i0,i0,.bool false,.str [],.lit 7 []] []),ow (.store true 7 (t 2) (t 11))]
  .ret)
  .skip))
  (.seq (sr [mv 12 0,ca 13 224 432 [(t 12)],od 14 (.bin .eql (t 13) (.const (.str [110,111,116])))]
  (.cond (t 14)
  (sr [mv 15 0,ca 16 272 433 [(t 15),(.const (.str [110,111,116]))]]
  (sr [mv 17 0,ca 18 304 434 [(t 17)],od 19 (.buildSlice 320 7 (.agg [i0,i0,i0,i0,.bool false,.str [],.nils]) 1 [(0,(t 18))]),od 20 (.build [i0,i0,i0,i0,.bool false,.str [],.lit 7 []] [(0,1,(ic 3)),(6,1,(t 19))]),
 ow (.store true 7 (t 2) (t 20))]
  .ret))
  .skip))
  (.seq (sr [mv 21 0,ca 22 368 432 [(t 21)],od 23 (.bin .eql (t 22) (.const (.str [105,102])))]
  (.cond (t 23)
  (sr [mv 24 0,ca 25 416 433 [(t 24),(.const (.str [105,102]))]]
  (sr [mv 26 0,ca 27 448 434 [(t 26)],od 3 (.new 64 7 (.const zE)),ow (.store true 7 (t 3) (t 27))]
  (sr [mv 28 0,ca 29 480 433 [(t 28),(.const (.str [116,104,101,110]))]]
  (sr [mv 30 0,ca 31 512 434 [(t 30)],od 4 (.new 80 7 (.const zE)),ow (.store true 7 (t 4) (t 31))]
  (sr [mv 32 0,ca 33 544 433 [(t 32),(.const (.str [101,108,115,101]))]]
  (.seq (.drawn [la 34 7 3,la 35 7 4,mv 36 0,op 37 (.call 608 false (fc 434) [(t 36)]) [2],
 op 38 (.buildSlice 624 7 (.agg [i0,i0,i0,i0,.bool false,.str [],.nils]) 3 [(0,(t 34)),(1,(t 35)),(2,(t 37))]) [0,1,3],op 39 (.build [i0,i0,i0,i0,.bool false,.str [],.lit 7 []] [(0,1,(ic 13)),(6,1,(t 38))]) [4],⟨none,.store true 7 (t 2) (t 39),none,([5,3]++rg 6)⟩])
  .ret))))))
  .skip))
  (sr [mv 40 0,ca 41 672 434 [(t 40)],od 5 (.new 96 7 (.const zE)),ow (.store true 7 (t 5) (t 41))]
  (sr [ca 42 688 436 [],mv 43 0,ca 44 720 432 [(t 43)],ca 45 736 435 [(t 42),(t 44)],
 mv 6 45]
  (.seq (sr [mv 46 6,od 47 (.bin .lss (t 46) (ic 0))]
  (.cond (t 47)
  (sr [la 48 7 5,ow (.store true 7 (t 2) (t 48))]
  .ret)
  .skip))
  (sr [mv 49 0,mv 50 0,ca 51 832 432 [(t 50)],ca 52 848 433 [(t 49),(t 51)]]
  (.seq (.drawn [mv 53 6,op 54 (.bin .add (ic 4) (t 53)) [0],la 55 7 5,mv 56 0,
 op 57 (.call 928 false (fc 434) [(t 56)]) [3],op 58 (.buildSlice 944 7 (.agg [i0,i0,i0,i0,.bool false,.str [],.nils]) 2 [(0,(t 55)),(1,(t 57))]) [2,4],op 59 (.build [i0,i0,i0,i0,.bool false,.str [],.lit 7 []] [(0,1,(t 54)),(6,1,(t 58))]) [1,5],⟨none,.store true 7 (t 2) (t 59),none,([6,4]++rg 7)⟩])
  .ret)))))))))
def Nz:aB:=⟨1,60,[some 2],[.cell 2 true 7],Jk,none⟩
def Jl:al:=
 (sr [od 1 (.new 32 7 (t 0)),mc 2 0,mc 3 0]
 (.seq (sr [la 5 7 1,ca 6 112 382 [(t 5)],od 7 (.bin .gtr (t 6) (ic 60))]
 (.cond (t 7)
 (sr [mc 2 0,mc 3 2]
 .ret)
 .skip))
 (sr [la 8 7 1,ca 9 160 383 [(t 8)],mv 4 9]
 (.seq (sr [mv 10 4,eq 11 10 0]
 (.cond (t 11)
 (sr [mc 2 0,mc 3 30]
 .ret)
 .skip))
 (sr [mv 12 4,mv 2 12,mc 3 0]
 .ret)))))
def NA:aB:=⟨1,13,[],[.tmp 2,.tmp 3],Jl,none⟩
def Jm:al:=
  (sr [od 4 (.new 80 7 (t 1)),od 6 (.new 112 7 (.const zE)),od 7 (.move (.const (.bool false)))]
  (sr [mv 12 0,la 13 7 4,ca 14 240 340 [(t 12),(t 13)],od 8 (.new 144 5 (.const (.agg [i0,i0,.lit 1 [],.bool false,.bool false]))),
 ow (.store true 5 (t 8) (t 14))]
  (sr [mv 15 2,od 16 (.build [i0,i0,.bool false,.str []] [(0,1,(t 15))]),od 17 (.build [i0,i0,i0,i0,.bool false,.str [],.lit 7 []] [(0,1,(ic 1)),(2,4,(t 16))]),od 9 (.new 160 7 (.const zE)),
 ow (.store true 7 (t 9) (t 17))]
  (.seq (sr [mv 18 2]
  (.block 0 (sr [eq 24 18 3,mv 23 24]
  (.cond (t 23)
  (.seq (sr [fa 25 2 8,ld 26 25,ln 27 26,od 28 (.bin .neq (t 27) (ic 1))]
  (.cond (t 28)
  (sr [od 29 (.build [i0,i0,i0,i0,.bool false,.str [],.lit 7 []] []),ow (.store true 7 (t 6) (t 29)),od 7 (.move (.const (.bool false)))]
  .ret)
  .skip))
  (sr [fa 30 2 8,ld 31 30,od 32 (.indexAddr 1 (t 31) (ic 0)),ld 33 32,
 fa 34 2 9,fa 35 3 34,ow (.store false 1 (t 35) (t 33))]
  (sr [la 37 7 9,ca 38 624 338 [(t 37)],mv 36 38,xt 39 36 0,
 xt 40 36 1,mv 10 39,mv 11 40]
  (sr [la 41 7 9,mv 42 11,eq 43 42 0,ow (.store true 7 (t 6) (t 41)),
 mv 7 43]
  .ret))))
  (sr [eq 45 18 2,mv 44 45]
  (.cond (t 44)
  (rn [fa 46 0 8,ld 47 46,eq 48 47 1,fa 49 2 9,
 fa 50 2 49,ow (.store false 1 (t 50) (t 48))])
  (rn [fa 19 0 8,ld 20 19,fa 21 2 9,fa 22 1 21,
 ow (.store false 1 (t 22) (t 20))])))))))
  (.seq (.drawn [la 51 7 9,la 52 5 8,op 53 (.call 864 false (fc 416) [(t 52)]) [1],⟨none,.store true 7 (t 6) (t 51),none,[0,2,0]⟩,
 op 7 (.move (t 53)) [2,3,0,1,2,3]])
  .ret)))))
def NB:aB:=⟨3,54,[],[.cell 6 true 7,.tmp 7],Jm,none⟩
def Jn:al:=
  (sr [od 2 (.new 48 9 (t 0)),od 4 (.move (.const (.nili)))]
  (.seq (sr [mv 5 1]
  (.block 0 (sr [eq 7 5 1,mv 6 7]
  (.cond (t 6)
  (sr [fa 8 0 2,ld 9 8,ca 10 176 418 [(t 9)],od 11 (.b6 3 (t 10)),
 mv 4 11]
  .ret)
  (sr [eq 13 5 2,mv 12 13]
  (.cond (t 12)
  (sr [fa 14 1 2,ld 15 14,od 16 (.b6 9 (t 15)),mv 4 16]
  .ret)
  (sr [eq 18 5 3,mv 17 18]
  (.cond (t 17)
  (sr [fa 19 2 2,ld 20 19,od 21 (.b6 9 (t 20)),mv 4 21]
  .ret)
  (sr [eq 23 5 4,mv 22 23]
  (.cond (t 22)
  (sr [fa 24 3 2,ld 25 24,ca 26 432 418 [(t 25)],od 27 (.b6 3 (t 26)),
 mv 4 27]
  .ret)
  (sr [eq 29 5 5,mv 28 29]
  (.cond (t 28)
  (sr [fa 30 4 2,ld 31 30,ca 32 528 418 [(t 31)],od 33 (.b6 3 (t 32)),
 mv 4 33]
  .ret)
  (sr [eq 35 5 6,mv 34 35]
  (.cond (t 34)
  (sr [fa 36 5 2,ld 37 36,od 38 (.b6 4 (t 37)),mv 4 38]
  .ret)
  (sr [eq 40 5 7,mv 39 40]
  (.cond (t 39)
  (sr [fa 41 6 2,ld 42 41,ca 43 704 418 [(t 42)],od 44 (.b6 3 (t 43)),
 mv 4 44]
  .ret)
  (sr [eq 46 5 8,mv 45 46]
  (.cond (t 45)
  (sr [fa 47 7 2,ld 48 47,ca 49 800 418 [(t 48)],od 50 (.b6 3 (t 49)),
 mv 4 50]
  .ret)
  (sr [eq 52 5 9,mv 51 52]
  (.cond (t 51)
  (sr [fa 53 8 2,ld 54 53,ca 55 896 418 [(t 54)],od 56 (.b6 3 (t 55)),
 mv 4 56]
  .ret)
  .skip))))))))))))))))))))
  (sr [od 4 (.move (.const (.nili)))]
  .ret)))
def NC:aB:=⟨2,57,[],[.tmp 4],Jn,none⟩
def Jo:al:=
  (sr [od 1 (.new 32 4 (t 0)),od 2 (.move (.const (.nili)))]
  (sr [od 3 (.move (.const (.nili)))]
  (.seq (sr [fa 4 0 1,ld 5 4]
  (.block 0 (sr [eq 7 5 1,mv 6 7]
  (.cond (t 6)
  (.seq (.drawn [fa 8 1 1,op 9 (.load false 1 (t 8)) [0],fa 10 1 1,op 11 (.load false 1 (t 10)) [2],
 op 12 (.call 208 false (fc 418) [(t 11)]) [3],op 13 (.bin .eql (t 9) (t 12)) [1,4]])
  (.cond (t 13)
  (rn [fa 14 1 1,ld 15 14,od 16 (.b6 3 (t 15)),mv 3 16])
  .skip))
  (sr [eq 18 5 2,mv 17 18]
  (.cond (t 17)
  (rn [fa 19 2 1,ld 20 19,od 21 (.b6 4 (t 20)),mv 3 21])
  (sr [eq 23 5 3,mv 22 23]
  (.cond (t 22)
  (sr [fa 24 3 1,ld 25 24,od 26 (.dN (t 25)),od 27 (.bin .leq (t 26) (ic 24)),
 mv 28 27,og 29 (.fieldAddr 3 (t 1)) 28 true,og 30 (.load false 1 (t 29)) 28 true,og 31 (.call 512 false (fc 424) [(t 30),(fc 425)]) 28 true,
 og 32 (.bin .lss (t 31) (ic 0)) 28 true,od 33 (.pick (t 28) (t 32) (.const (.bool false)))]
  (.cond (t 33)
  (rn [fa 34 3 1,ld 35 34,od 36 (.b6 9 (t 35)),mv 3 36])
  .skip))
  .skip))))))))
  (.seq (.seq (.drawn [mv 37 3,op 38 (.call 624 false (fc 391) [(t 37)]) [0],la 39 4 1,op 40 (.D6 true [1,1,0,2] (t 38) (t 39)) [1,2]])
  (.cond (t 40)
  (sr [od 2 (.move (.const (.nili)))]
  .ret)
  .skip))
  (sr [mv 41 3,mv 2 41]
  .ret)))))
def ND:aB:=⟨1,42,[],[.tmp 2],Jo,none⟩
def Jp:al:=
 (sr [mc 2 0]
 (sr [mv 3 0,od 4 (.min [(t 3),(ic 1073741824)]),od 5 (.max [(ic (-1073741824)),(t 4)]),mv 2 5]
 .ret))
def NF:aB:=⟨1,6,[],[.tmp 2],Jp,none⟩
def Jq:al:=
  (sr [od 1 (.new 32 3 (t 0)),od 2 (.move (.const (.bool false)))]
  (sr [fa 3 2 1,ld 4 3,od 5 (.bin .geq (t 4) (ic 1)),mv 6 5,
 og 7 (.fieldAddr 2 (t 1)) 6 true,og 8 (.load false 1 (t 7)) 6 true,og 9 (.bin .leq (t 8) (ic 4194304)) 6 true,od 10 (.pick (t 6) (t 9) (.const (.bool false))),
 mv 11 10,og 12 (.fieldAddr 0 (t 1)) 11 true,og 13 (.load false 1 (t 12)) 11 true,og 14 (.bin .geq (t 13) (ic (-137438953472))) 11 true,
 od 15 (.pick (t 11) (t 14) (.const (.bool false))),mv 16 15,og 17 (.fieldAddr 0 (t 1)) 16 true,og 18 (.load false 1 (t 17)) 16 true,
 og 19 (.bin .leq (t 18) (ic 137438953472)) 16 true,od 20 (.pick (t 16) (t 19) (.const (.bool false))),mv 21 20,og 22 (.fieldAddr 1 (t 1)) 21 true,
 og 23 (.load false 1 (t 22)) 21 true,og 24 (.bin .geq (t 23) (ic (-137438953472))) 21 true,od 25 (.pick (t 21) (t 24) (.const (.bool false))),mv 26 25,
 og 27 (.fieldAddr 1 (t 1)) 26 true,og 28 (.load false 1 (t 27)) 26 true,og 29 (.bin .leq (t 28) (ic 137438953472)) 26 true,od 30 (.pick (t 26) (t 29) (.const (.bool false))),
 mv 2 30]
  .ret))
def Jr:aB:=⟨1,31,[],[.tmp 2],Jq,none⟩
def Js:al:=
  (sr [od 1 (.new 32 2 (t 0)),od 2 (.new 48 3 (.const (.agg [i0,i0,i0])))]
  (sr [fa 3 0 1,ld 4 3,fa 5 1 1,ld 6 5,
 od 7 (.build [i0,i0,i0] [(0,1,(t 4)),(1,1,(t 6)),(2,1,(ic 1))]),ow (.store true 3 (t 2) (t 7))]
  .ret))
def Jt:aB:=⟨1,8,[],[.cell 2 true 3],Js,none⟩
def Ju:al:=
  (sr [od 3 (.new 64 3 (t 0)),od 4 (.new 80 3 (t 1)),od 5 (.new 96 2 (t 2)),od 6 (.move (.const (.bool false)))]
  (.seq (.seq (.drawn [la 9 3 3,la 10 3 4,la 11 2 5,op 12 (.call 208 false (fc 199) [(t 11)]) [2],
 op 13 (.call 224 false (fc 235) [(t 9),(t 10),(t 12)]) [0,1,3,3],op 14 (.bin .neq (t 13) (ic 0)) [4]])
  (.cond (t 14)
  (sr [od 6 (.move (.const (.bool false)))]
  .ret)
  .skip))
  (sr [fa 15 0 5,ld 16 15,fa 17 0 3,ld 18 17,
 fa 19 2 3,ld 20 19,od 21 (.build [i0,i0] [(0,1,(t 18)),(1,1,(t 20))]),fa 22 0 4,
 ld 23 22,fa 24 2 4,ld 25 24,od 26 (.build [i0,i0] [(0,1,(t 23)),(1,1,(t 25))]),
 ca 27 448 236 [(t 16),(t 21),(t 26)],mv 7 27]
  (sr [fa 28 1 5,ld 29 28,fa 30 1 3,ld 31 30,
 fa 32 2 3,ld 33 32,od 34 (.build [i0,i0] [(0,1,(t 31)),(1,1,(t 33))]),fa 35 1 4,
 ld 36 35,fa 37 2 4,ld 38 37,od 39 (.build [i0,i0] [(0,1,(t 36)),(1,1,(t 38))]),
 ca 40 656 236 [(t 29),(t 34),(t 39)],mv 8 40]
  (sr [mv 41 7,eq 42 41 0,mv 43 42,og 44 (.move (t 8)) 43 true,
 og 45 (.bin .eql (t 44) (ic 0)) 43 true,od 46 (.pick (t 43) (t 45) (.const (.bool false))),mv 6 46]
  .ret)))))
def Jv:aB:=⟨3,47,[],[.tmp 6],Ju,none⟩
def Jw:al:=
  (sr [od 3 (.new 64 3 (t 0)),od 4 (.new 80 3 (t 1)),od 5 (.new 96 2 (t 2)),mc 6 0]
  (.seq (sr [fa 10 2 3,ld 11 10,od 12 (.bin .lss (t 11) (ic 1)),mv 13 12,
 og 14 (.fieldAddr 2 (t 4)) 13 false,og 15 (.load false 1 (t 14)) 13 false,og 16 (.bin .lss (t 15) (ic 1)) 13 false,od 17 (.pick (t 13) (.const (.bool true)) (t 16))]
  (.cond (t 17)
  (sr [mc 6 0]
  .ret)
  .skip))
  (sr [la 18 2 5,ca 19 320 199 [(t 18)],od 7 (.new 128 3 (.const (.agg [i0,i0,i0]))),ow (.store true 3 (t 7) (t 19))]
  (sr [la 20 3 3,la 21 2 5,ca 22 368 237 [(t 20),(t 21)],mv 8 22]
  (sr [la 23 3 4,la 24 2 5,ca 25 416 237 [(t 23),(t 24)],mv 9 25]
  (.seq (sr [mv 26 8,od 27 (.un .not (t 26)),mv 28 27,og 29 (.move (t 9)) 28 true,
 od 30 (.pick (t 28) (t 29) (.const (.bool false))),mv 31 30,og 32 (.load true 3 (t 3)) 31 true,og 33 (.load true 3 (t 4)) 31 true,
 og 34 (.load true 3 (t 7)) 31 true,og 35 (.call 576 false (fc 235) [(t 32),(t 33),(t 34)]) 31 true,og 36 (.bin .lss (t 35) (ic 0)) 31 true,od 37 (.pick (t 31) (t 36) (.const (.bool false)))]
  (.cond (t 37)
  (sr [mc 6 1]
  .ret)
  .skip))
  (.seq (sr [mv 38 8,mv 39 38,og 40 (.move (t 9)) 39 true,og 41 (.un .not (t 40)) 39 true,
 od 42 (.pick (t 39) (t 41) (.const (.bool false))),mv 43 42,og 44 (.load true 3 (t 4)) 43 true,og 45 (.load true 3 (t 3)) 43 true,
 og 46 (.load true 3 (t 7)) 43 true,og 47 (.call 768 false (fc 235) [(t 44),(t 45),(t 46)]) 43 true,og 48 (.bin .lss (t 47) (ic 0)) 43 true,od 49 (.pick (t 43) (t 48) (.const (.bool false)))]
  (.cond (t 49)
  (sr [mc 6 (-1)]
  .ret)
  .skip))
  (sr [mc 6 0]
  .ret))))))))
def Jy:aB:=⟨3,50,[],[.tmp 6],Jw,none⟩
def Jz:al:=
  (sr [od 2 (.new 48 7 (t 0)),od 3 (.new 64 7 (t 1)),od 4 (.move (.const (.bool false)))]
  (.seq (sr [fa 7 0 3,fa 8 1 7,ld 9 8,fa 10 0 3,
 fa 11 2 10,ld 12 11,od 13 (.build [i0,i0] [(0,1,(t 9)),(1,1,(t 12))]),fa 14 0 2,
 fa 15 1 14,ld 16 15,fa 17 0 2,fa 18 2 17,
 ld 19 18,od 20 (.build [i0,i0] [(0,1,(t 16)),(1,1,(t 19))]),ca 21 352 238 [(t 13),(t 20)],od 22 (.bin .geq (t 21) (ic 0))]
  (.cond (t 22)
  (sr [fa 23 0 2,la 24 3 23,fa 25 3 2,la 26 3 25,
 fa 27 0 3,la 28 3 27,ca 29 480 235 [(t 24),(t 26),(t 28)],mv 5 29]
  (.seq (sr [mv 30 5,eq 31 30 0]
  (.cond (t 31)
  (rn [fa 32 0 2,la 33 3 32,fa 34 3 2,la 35 3 34,
 fa 36 3 3,la 37 3 36,ca 38 624 235 [(t 33),(t 35),(t 37)],mv 5 38])
  .skip))
  (sr [mv 39 5,od 40 (.bin .lss (t 39) (ic 0)),mv 4 40]
  .ret)))
  .skip))
  (sr [fa 41 0 3,la 42 3 41,fa 43 3 3,la 44 3 43,
 fa 45 0 2,la 46 3 45,ca 47 768 235 [(t 42),(t 44),(t 46)],mv 6 47]
  (.seq (sr [mv 48 6,eq 49 48 0]
  (.cond (t 49)
  (rn [fa 50 0 3,la 51 3 50,fa 52 3 3,la 53 3 52,
 fa 54 3 2,la 55 3 54,ca 56 912 235 [(t 51),(t 53),(t 55)],mv 6 56])
  .skip))
  (sr [mv 57 6,od 58 (.bin .gtr (t 57) (ic 0)),mv 4 58]
  .ret)))))
def JA:aB:=⟨2,59,[],[.tmp 4],Jz,none⟩
def JB:al:=
  (sr [mc 2 0,mc 3 0]
  (.seq (.block 0 (.seq (sr [mv 5 0,eq 6 5 1,mv 4 6]
  (.cond (t 4)
  .skip
  (rn [mv 7 0,eq 8 7 2,mv 4 8])))
  (.cond (t 4)
  (sr [mc 2 0,mc 3 0]
  .ret)
  (sr [mv 10 0,eq 11 10 3,mv 9 11]
  (.cond (t 9)
  (sr [mc 2 1,mc 3 1]
  .ret)
  (.seq (sr [mv 13 0,eq 14 13 4,mv 12 14]
  (.cond (t 12)
  .skip
  (rn [mv 15 0,eq 16 15 5,mv 12 16])))
  (.cond (t 12)
  (sr [mc 2 1,mc 3 2]
  .ret)
  (sr [mv 18 0,eq 19 18 6,mv 17 19]
  (.cond (t 17)
  (sr [mc 2 2,mc 3 2]
  .ret)
  (sr [mv 21 0,eq 22 21 7,mv 20 22]
  (.cond (t 20)
  (sr [mc 2 3,mc 3 2]
  .ret)
  (sr [mv 24 0,od 25 (.bin .geq (t 24) (ic 8)),mv 26 25,og 27 (.move (t 0)) 26 true,
 og 28 (.bin .leq (t 27) (ic 12)) 26 true,od 29 (.pick (t 26) (t 28) (.const (.bool false))),mv 23 29]
  (.cond (t 23)
  (sr [mc 2 4,mc 3 2]
  .ret)
  (sr [mv 31 0,eq 32 31 13,mv 30 32]
  (.cond (t 30)
  (sr [mc 2 5,mc 3 3]
  .ret)
  .skip)))))))))))))))
  (sr [mc 2 0,mc 3 (-1)]
  .ret)))
def NG:aB:=⟨1,33,[],[.tmp 2,.tmp 3],JB,none⟩
def JC:al:=
  (sr [od 2 (.new 48 1 (t 0)),od 3 (.move (.const (.bool false)))]
  (sr [ld 4 1,od 5 (.im 403 [(t 2)]),ca 6 112 259 [(t 4),(t 5)],od 7 (.un .not (t 6)),
 mv 3 7]
  .ret))
def NH:aB:=⟨2,8,[],[.tmp 3],JC,none⟩
def JD:al:=
  (sr [od 4 (.move (.const (.bool false)))]
  (sr [mv 5 0,mv 6 1,ca 7 128 280 [(t 5),(t 6)],od 8 (.bin .geq (t 7) (ic 0)),
 mv 4 8]
  .ret))
def NI:aB:=⟨2,9,[],[.tmp 4],JD,none⟩
def JE:al:=
 (sr [od 3 (.move (.const (.bool false)))]
 (sr [mv 4 0,ld 5 1,od 6 (.bin .neq (t 4) (t 5)),mv 3 6]
 .ret))
def NJ:aB:=⟨2,7,[],[.tmp 3],JE,none⟩
def JF:al:=
  (sr [od 2 (.new 48 4 (t 0)),od 3 (.move (.const (.bool false)))]
  (sr [fa 4 3 2,ld 5 4,ld 6 1,ca 7 128 349 [(t 5),(t 6)],
 od 8 (.un .not (t 7)),mv 3 8]
  .ret))
def NK:aB:=⟨2,9,[],[.tmp 3],JF,none⟩
def JG:al:=
  (sr [od 2 (.new 48 5 (t 0)),od 3 (.new 64 5 (t 1)),od 4 (.new 80 5 (.const (.agg [i0,i0,.lit 1 [],.bool false,.bool false])))]
  (sr [fa 5 0 2,ld 6 5,fa 7 0 3,ld 8 7,
 od 9 (.min [(t 6),(t 8)]),fa 10 1 2,ld 11 10,fa 12 1 3,
 ld 13 12,od 14 (.min [(t 11),(t 13)]),od 15 (.build [i0,i0,.lit 1 [],.bool false,.bool false] [(0,1,(t 9)),(1,1,(t 14))]),ow (.store true 5 (t 4) (t 15))]
  .ret))
def NL:aB:=⟨2,16,[],[.cell 4 true 5],JG,none⟩
def JH:al:=
  (sr [od 2 (.new 48 5 (t 0)),od 3 (.new 64 5 (t 1)),od 4 (.new 80 5 (.const (.agg [i0,i0,.lit 1 [],.bool false,.bool false])))]
  (sr [fa 5 0 2,ld 6 5,fa 7 0 3,ld 8 7,
 od 9 (.max [(t 6),(t 8)]),fa 10 1 2,ld 11 10,fa 12 1 3,
 ld 13 12,od 14 (.max [(t 11),(t 13)]),od 15 (.build [i0,i0,.lit 1 [],.bool false,.bool false] [(0,1,(t 9)),(1,1,(t 14))]),ow (.store true 5 (t 4) (t 15))]
  .ret))
def NM:aB:=⟨2,16,[],[.cell 4 true 5],JH,none⟩
def JI:al:=
  (sr [od 2 (.new 48 5 (t 0)),od 3 (.new 64 5 (t 1)),od 4 (.new 80 5 (.const (.agg [i0,i0,.lit 1 [],.bool false,.bool false])))]
  (.seq (.block 0 (sr [fa 6 4 2,ld 7 6,mv 8 7,og 9 (.fieldAddr 3 (t 2)) 8 true,
 og 10 (.load false 1 (t 9)) 8 true,og 11 (.un .not (t 10)) 8 true,og 12 (.move (t 11)) 8 true,og 13 (.fieldAddr 3 (t 3)) 12 false,
 og 14 (.load false 1 (t 13)) 12 false,og 15 (.un .not (t 14)) 12 false,og 16 (.pick (t 12) (.const (.bool true)) (t 15)) 8 true,od 17 (.pick (t 8) (t 16) (.const (.bool false))),
 mv 5 17]
  (.cond (t 5)
  (sr [ca 18 304 377 [],ow (.store true 5 (t 4) (t 18))]
  .ret)
  (sr [fa 20 4 2,ld 21 20,mv 19 21]
  (.cond (t 19)
  (.seq (sr [fa 22 2 2,ld 23 22,od 24 (.im 427 [(t 3)]),ca 25 416 426 [(t 23),(t 24)],
 od 26 (.un .not (t 25))]
  (.cond (t 26)
  (sr [ca 27 448 395 [],ow (.store true 5 (t 4) (t 27))]
  .ret)
  .skip))
  (.seq (sr [fa 28 2 2,ld 29 28,ln 30 29,eq 31 30 1,
 mv 32 31,og 33 (.fieldAddr 2 (t 3)) 32 true,og 34 (.load false 1 (t 33)) 32 true,og 35 (.len (t 34)) 32 true,
 og 36 (.bin .eql (t 35) (ic 1)) 32 true,od 37 (.pick (t 32) (t 36) (.const (.bool false)))]
  (.cond (t 37)
  (sr [ca 38 624 394 [],ow (.store true 5 (t 4) (t 38))]
  .ret)
  .skip))
  (sr [ca 39 640 377 [],ow (.store true 5 (t 4) (t 39))]
  .ret)))
  (.seq (sr [fa 41 1 2,ld 42 41,fa 43 0 3,ld 44 43,
 ls 45 42 44,mv 40 45]
  (.cond (t 40)
  .skip
  (rn [fa 46 1 3,ld 47 46,fa 48 0 2,ld 49 48,
 ls 50 47 49,mv 40 50])))
  (.cond (t 40)
  (sr [ca 51 832 395 [],ow (.store true 5 (t 4) (t 51))]
  .ret)
  (sr [la 53 5 2,ca 54 880 416 [(t 53)],mv 55 54,og 56 (.load true 5 (t 3)) 55 true,
 og 57 (.call 928 false (fc 416) [(t 56)]) 55 true,od 58 (.pick (t 55) (t 57) (.const (.bool false))),mv 52 58]
  (.cond (t 52)
  (sr [ca 59 960 394 [],ow (.store true 5 (t 4) (t 59))]
  .ret)
  .skip)))))))))
  (sr [ca 60 976 377 [],ow (.store true 5 (t 4) (t 60))]
  .ret)))
def NN:aB:=⟨2,61,[],[.cell 4 true 5],JI,none⟩
def JJ:al:=
  (sr [od 2 (.new 48 5 (t 0)),od 3 (.new 64 5 (t 1)),od 4 (.new 80 5 (.const (.agg [i0,i0,.lit 1 [],.bool false,.bool false])))]
  (.seq (.block 0 (sr [fa 6 1 2,ld 7 6,fa 8 0 3,ld 9 8,
 ls 10 7 9,mv 5 10]
  (.cond (t 5)
  (sr [ca 11 192 394 [],ow (.store true 5 (t 4) (t 11))]
  .ret)
  (sr [fa 13 0 2,ld 14 13,fa 15 1 3,ld 16 15,
 od 17 (.bin .geq (t 14) (t 16)),mv 12 17]
  (.cond (t 12)
  (sr [ca 18 304 395 [],ow (.store true 5 (t 4) (t 18))]
  .ret)
  .skip)))))
  (sr [ca 19 320 377 [],ow (.store true 5 (t 4) (t 19))]
  .ret)))
def NO:aB:=⟨2,20,[],[.cell 4 true 5],JJ,none⟩
def JK:al:=
  (sr [od 2 (.new 48 5 (t 0)),od 3 (.new 64 5 (t 1)),od 4 (.new 80 5 (.const (.agg [i0,i0,.lit 1 [],.bool false,.bool false])))]
  (.seq (.drawn [fa 5 0 2,op 6 (.load false 1 (t 5)) [0],fa 7 0 3,op 8 (.load false 1 (t 7)) [2],
 op 9 (.bin .add (t 6) (t 8)) [1,3],op 10 (.call 176 false (fc 428) [(t 9)]) [4],fa 11 1 2,op 12 (.load false 1 (t 11)) [6],
 fa 13 1 3,op 14 (.load false 1 (t 13)) [8],op 15 (.bin .add (t 12) (t 14)) [7,9],op 16 (.call 272 false (fc 428) [(t 15)]) [10,5],
 op 17 (.build [i0,i0,.lit 1 [],.bool false,.bool false] [(0,1,(t 10)),(1,1,(t 16))]) [5,11],⟨none,.store true 5 (t 4) (t 17),none,([12,11]++rg 13)⟩])
  .ret))
def NP:aB:=⟨2,18,[],[.cell 4 true 5],JK,none⟩
def JL:al:=
  (sr [od 2 (.new 48 5 (t 0)),od 3 (.new 64 5 (t 1)),od 4 (.new 80 5 (.const (.agg [i0,i0,.lit 1 [],.bool false,.bool false])))]
  (.seq (.drawn [fa 5 0 2,op 6 (.load false 1 (t 5)) [0],fa 7 1 3,op 8 (.load false 1 (t 7)) [2],
 op 9 (.bin .sub (t 6) (t 8)) [1,3],op 10 (.call 176 false (fc 428) [(t 9)]) [4],fa 11 1 2,op 12 (.load false 1 (t 11)) [6],
 fa 13 0 3,op 14 (.load false 1 (t 13)) [8],op 15 (.bin .sub (t 12) (t 14)) [7,9],op 16 (.call 272 false (fc 428) [(t 15)]) [10,5],
 op 17 (.build [i0,i0,.lit 1 [],.bool false,.bool false] [(0,1,(t 10)),(1,1,(t 16))]) [5,11],⟨none,.store true 5 (t 4) (t 17),none,([12,11]++rg 13)⟩])
  .ret))
def NQ:aB:=⟨2,18,[],[.cell 4 true 5],JL,none⟩
def JM:al:=
  (sr [od 2 (.new 48 5 (t 0)),od 3 (.new 64 5 (t 1)),od 4 (.new 80 5 (.const (.agg [i0,i0,.lit 1 [],.bool false,.bool false])))]
  (.seq (.drawn [fa 6 0 2,op 7 (.load false 1 (t 6)) [0],fa 8 0 3,op 9 (.load false 1 (t 8)) [2],
 op 10 (.bin .mul (t 7) (t 9)) [1,3],op 11 (.call 192 false (fc 428) [(t 10)]) [4],fa 12 0 2,op 13 (.load false 1 (t 12)) [6],
 fa 14 1 3,op 15 (.load false 1 (t 14)) [8],op 16 (.bin .mul (t 13) (t 15)) [7,9],op 17 (.call 288 false (fc 428) [(t 16)]) [10,5],
 fa 18 1 2,op 19 (.load false 1 (t 18)) [12],fa 20 0 3,op 21 (.load false 1 (t 20)) [14],
 op 22 (.bin .mul (t 19) (t 21)) [13,15],op 23 (.call 384 false (fc 428) [(t 22)]) [16,11],fa 24 1 2,op 25 (.load false 1 (t 24)) [18],
 fa 26 1 3,op 27 (.load false 1 (t 26)) [20],op 28 (.bin .mul (t 25) (t 27)) [19,21],op 29 (.call 480 false (fc 428) [(t 28)]) [22,17],
 op 30 (.buildSlice 496 1 (i0) 4 [(0,(t 11)),(1,(t 17)),(2,(t 23)),(3,(t 29))]) [5,11,17,23],op 5 (.il 97 (t 30)) ([24,23]++rg 25)])
  (sr [mv 31 5,ca 32 528 429 [(t 31)],mv 33 5,ca 34 560 430 [(t 33)],
 od 35 (.build [i0,i0,.lit 1 [],.bool false,.bool false] [(0,1,(t 32)),(1,1,(t 34))]),ow (.store true 5 (t 4) (t 35))]
  .ret)))
def NR:aB:=⟨2,36,[],[.cell 4 true 5],JM,none⟩
abbrev E9:al:=
  (.seq (sr [mv 12 3,mv 13 0,od 14 (.dN (t 13)),ls 15 12 14,
 mv 16 15,og 17 (.move (t 0)) 16 true,og 18 (.move (t 3)) 16 true,og 19 (.cf (t 17) (t 18)) 16 true,
 og 20 (.call 336 false (fc 439) [(t 19)]) 16 true,og 21 (.bin .eql (t 20) (.const (.int .u8 97))) 16 true,od 22 (.pick (t 16) (t 21) (.const (.bool false)))]
  (.cond (t 22)
  .skip
  (.exit 1)))
  (.block 2 (rn [mv 23 3,ad 24 23 1,mv 3 24])))
abbrev Fa:al:=
  (.seq (sr [mv 35 3,mv 36 0,od 37 (.dN (t 36)),ls 38 35 37,
 mv 39 38,og 40 (.move (t 0)) 39 true,og 41 (.move (t 3)) 39 true,og 42 (.cf (t 40) (t 41)) 39 true,
 og 43 (.bin .neq (t 42) (.const (.int .u8 34))) 39 true,od 44 (.pick (t 39) (t 43) (.const (.bool false)))]
  (.cond (t 44)
  .skip
  (.exit 3)))
  (.block 4 (.seq (sr [mv 45 0,mv 46 3,od 47 (.cf (t 45) (t 46)),od 48 (.bin .lss (t 47) (.const (.int .u8 32))),
 mv 49 48,og 50 (.move (t 0)) 49 false,og 51 (.move (t 3)) 49 false,og 52 (.cf (t 50) (t 51)) 49 false,
 og 53 (.bin .gtr (t 52) (.const (.int .u8 126))) 49 false,od 54 (.pick (t 49) (.const (.bool true)) (t 53))]
  (.cond (t 54)
  (sr [mc 2 0]
  .ret)
  .skip))
  (rn [mv 55 3,ad 56 55 1,mv 3 56]))))
abbrev Fb:al:=
  (.seq (sr [mv 79 3,mv 80 0,od 81 (.dN (t 80)),ls 82 79 81,
 mv 83 82,og 84 (.move (t 0)) 83 true,og 85 (.move (t 3)) 83 true,og 86 (.cf (t 84) (t 85)) 83 true,
 og 87 (.call 1408 false (fc 439) [(t 86)]) 83 true,og 88 (.bin .eql (t 87) (.const (.int .u8 48))) 83 true,od 89 (.pick (t 83) (t 88) (.const (.bool false)))]
  (.cond (t 89)
  .skip
  (.exit 5)))
  (.block 6 (rn [mv 90 3,ad 91 90 1,mv 3 91])))
def JN:al:=
  (sr [mc 2 0]
  (sr [mc 3 1]
  (.seq (sr [mv 6 0,od 7 (.cf (t 6) (ic 0)),ca 8 144 439 [(t 7)],mv 4 8]
  (sr [mv 9 4]
  (.block 0 (sr [od 11 (.bin .eql (t 9) (.const (.int .u8 97))),mv 10 11]
  (.cond (t 10)
  (.seq (.block 1 (.loop E9))
  (sr [mv 25 3,mv 2 25]
  .ret))
  (.seq (sr [od 27 (.bin .eql (t 9) (.const (.int .u8 40))),mv 26 27]
  (.cond (t 26)
  .skip
  (sr [od 28 (.bin .eql (t 9) (.const (.int .u8 41))),mv 26 28]
  (.cond (t 26)
  .skip
  (sr [od 29 (.bin .eql (t 9) (.const (.int .u8 61))),mv 26 29]
  (.cond (t 26)
  .skip
  (sr [od 30 (.bin .eql (t 9) (.const (.int .u8 60))),mv 26 30]
  (.cond (t 26)
  .skip
  (sr [od 31 (.bin .eql (t 9) (.const (.int .u8 43))),mv 26 31]
  (.cond (t 26)
  .skip
  (rn [od 32 (.bin .eql (t 9) (.const (.int .u8 42))),mv 26 32])))))))))))
  (.cond (t 26)
  (sr [mc 2 1]
  .ret)
  (sr [od 34 (.bin .eql (t 9) (.const (.int .u8 34))),mv 33 34]
  (.cond (t 33)
  (.seq (.block 3 (.loop Fa))
  (.seq (sr [mv 57 3,mv 58 0,od 59 (.dN (t 58)),od 60 (.bin .eql (t 57) (t 59))]
  (.cond (t 60)
  (sr [mc 2 0]
  .ret)
  .skip))
  (sr [mv 61 3,ad 62 61 1,mv 2 62]
  .ret)))
  (.seq (sr [od 64 (.bin .eql (t 9) (.const (.int .u8 45))),mv 63 64]
  (.cond (t 63)
  .skip
  (rn [od 65 (.bin .eql (t 9) (.const (.int .u8 48))),mv 63 65])))
  (.cond (t 63)
  (.seq (sr [mv 66 4,od 67 (.bin .eql (t 66) (.const (.int .u8 45))),mv 68 67,og 69 (.move (t 0)) 68 true,
 og 70 (.dN (t 69)) 68 true,og 71 (.bin .eql (t 70) (ic 1)) 68 true,og 72 (.move (t 71)) 68 true,og 73 (.move (t 0)) 72 false,
 og 74 (.cf (t 73) (ic 1)) 72 false,og 75 (.call 1216 false (fc 439) [(t 74)]) 72 false,og 76 (.bin .neq (t 75) (.const (.int .u8 48))) 72 false,og 77 (.pick (t 72) (.const (.bool true)) (t 76)) 68 true,
 od 78 (.pick (t 68) (t 77) (.const (.bool false)))]
  (.cond (t 78)
  (sr [mc 2 1]
  .ret)
  .skip))
  (.seq (.block 5 (.loop Fb))
  (sr [mv 92 0,mv 93 3,od 94 (.dM (t 92) none (some (t 93))),mv 5 94]
  (.seq (sr [mv 95 4,od 96 (.bin .eql (t 95) (.const (.int .u8 45)))]
  (.cond (t 96)
  (rn [mv 97 0,mv 98 3,od 99 (.dM (t 97) (some (ic 1)) (some (t 98))),mv 5 99])
  .skip))
  (.seq (sr [mv 100 5,od 101 (.dN (t 100)),od 102 (.bin .gtr (t 101) (ic 10)),mv 103 102,
 og 104 (.move (t 5)) 103 false,og 105 (.cf (t 104) (ic 0)) 103 false,og 106 (.bin .eql (t 105) (.const (.int .u8 48))) 103 false,og 107 (.move (t 106)) 103 false,
 og 108 (.move (t 5)) 107 true,og 109 (.dN (t 108)) 107 true,og 110 (.bin .gtr (t 109) (ic 1)) 107 true,og 111 (.move (t 110)) 107 true,
 og 112 (.move (t 4)) 111 false,og 113 (.bin .eql (t 112) (.const (.int .u8 45))) 111 false,og 114 (.pick (t 111) (.const (.bool true)) (t 113)) 107 true,og 115 (.pick (t 107) (t 114) (.const (.bool false))) 103 false,
 od 116 (.pick (t 103) (.const (.bool true)) (t 115))]
  (.cond (t 116)
  (sr [mc 2 0]
  .ret)
  .skip))
  (sr [mv 117 3,mv 2 117]
  .ret))))))
  .skip)))))))))))
  (sr [mc 2 0]
  .ret))))
def NS:aB:=⟨1,118,[],[.tmp 2],JN,none⟩
def JO:al:=
  (sr [od 2 (.move (.const (.str [])))]
  (.seq (sr [mv 3 0,od 4 (.nilCheck (t 3)),fa 5 0 4,ld 6 5,
 ln 7 6,eq 8 7 0]
  (.cond (t 8)
  (sr [od 2 (.move (.const (.str [])))]
  .ret)
  .skip))
  (sr [mv 9 0,od 10 (.nilCheck (t 9)),fa 11 0 10,ld 12 11,
 od 13 (.indexAddr 1 (t 12) (ic 0)),ld 14 13,mv 2 14]
  .ret)))
def NT:aB:=⟨1,15,[some 2],[.tmp 2],JO,none⟩
def JP:al:=
  (.seq (sr [mv 4 0,ca 5 96 432 [(t 4)],mv 6 1,od 7 (.bin .neq (t 5) (t 6))]
  (.cond (t 7)
  (sr [mv 8 0,od 9 (.nilCheck (t 8)),fa 10 1 9,ow (.store false 1 (t 10) (.const (.bool true)))]
  .ret)
  .skip))
  (rn [mv 11 0,mv 12 0,od 13 (.nilCheck (t 12)),fa 14 0 13,
 ld 15 14,od 16 (.slice 1 (t 15) (some (ic 1)) none none),od 17 (.nilCheck (t 11)),fa 18 0 17,
 ow (.store false 1 (t 18) (t 16))]))
def NU:aB:=⟨2,19,[some 2,none],[],JP,none⟩
def JQ:al:=
  (sr [od 2 (.new 48 7 (.const zE))]
  (sr [mv 8 0,ca 9 160 432 [(t 8)],mv 3 9]
  (.seq (sr [mv 10 3,od 11 (.bin .eql (t 10) (.const (.str [])))]
  (.cond (t 11)
  (sr [mv 12 0,od 13 (.nilCheck (t 12)),fa 14 1 13,ow (.store false 1 (t 14) (.const (.bool true)))]
  (sr [od 15 (.build [i0,i0,i0,i0,.bool false,.str [],.lit 7 []] []),ow (.store true 7 (t 2) (t 15))]
  .ret))
  .skip))
  (sr [mv 16 0,mv 17 3,ca 18 304 433 [(t 16),(t 17)]]
  (.seq (sr [mv 19 3,od 20 (.bin .eql (t 19) (.const (.str [40])))]
  (.cond (t 20)
  (sr [mv 21 0,ca 22 368 423 [(t 21)],od 4 (.new 80 7 (.const zE)),ow (.store true 7 (t 4) (t 22))]
  (sr [mv 23 0,ca 24 400 433 [(t 23),(.const (.str [41]))]]
  (sr [la 25 7 4,ow (.store true 7 (t 2) (t 25))]
  .ret)))
  .skip))
  (sr [ca 26 432 440 [],mv 27 3,ca 28 464 435 [(t 26),(t 27)],mv 5 28]
  (.seq (sr [mv 29 5,od 30 (.bin .geq (t 29) (ic 0))]
  (.cond (t 30)
  (sr [mv 31 5,ad 32 31 1,od 33 (.build [i0,i0,i0,i0,.bool false,.str [],.lit 7 []] [(0,1,(ic 2)),(1,1,(t 32))]),ow (.store true 7 (t 2) (t 33))]
  .ret)
  .skip))
  (sr [mv 35 3,ca 36 592 441 [(t 35)],mv 34 36,xt 37 34 0,
 xt 38 34 1,od 6 (.new 112 7 (.const zE)),ow (.store true 7 (t 6) (t 37)),mv 7 38]
  (.seq (sr [mv 39 7,od 40 (.un .not (t 39))]
  (.cond (t 40)
  (rn [mv 41 0,od 42 (.nilCheck (t 41)),fa 43 1 42,ow (.store false 1 (t 43) (.const (.bool true)))])
  .skip))
  (sr [la 44 7 6,ow (.store true 7 (t 2) (t 44))]
  .ret))))))))))
def NV:aB:=⟨1,45,[some 2],[.cell 2 true 7],JQ,none⟩
abbrev Fc:al:=
  (.seq (sr [mv 6 5,mv 7 0,ln 8 7,ls 9 6 8]
  (.cond (t 9)
  .skip
  (.exit 0)))
  (.seq (.block 1 (sr [mv 12 0,mv 13 5,od 14 (.indexAddr 1 (t 12) (t 13)),ld 15 14,
 mv 16 1,od 17 (.bin .eql (t 15) (t 16))]
  (.cond (t 17)
  (sr [mv 18 5,mv 4 18]
  .ret)
  .skip)))
  (rn [mv 10 5,ad 11 10 1,mv 5 11])))
def JR:al:=
 (sr [mc 4 0]
 (.seq (sr [mc 5 0]
 (.block 0 (.loop Fc)))
 (sr [mc 4 (-1)]
 .ret)))
def NW:aB:=⟨2,19,[],[.tmp 4],JR,none⟩
def JS:al:=
 (sr [od 0 (.move (.const (.lit 1 [])))]
 (sr [od 1 (.buildSlice 32 1 (.str []) 9 [(0,(.const (.str [97,110,100]))),(1,(.const (.str [111,114]))),(2,(.const (.str [61]))),(3,(.const (.str [60]))),(4,(.const (.str [43]))),(5,(.const (.str [45]))),(6,(.const (.str [42]))),(7,(.const (.str [109,105,110]))),(8,(.const (.str [109,97,120])))]),mv 0 1]
 .ret))
def NX:aB:=⟨0,2,[],[.tmp 0],JS,none⟩
abbrev Fe:al:=
  (.seq (sr [mv 5 4,fa 6 6 1,ld 7 6,ln 8 7,
 ls 9 5 8]
  (.cond (t 9)
  .skip
  (.exit 0)))
  (.seq (.block 1 (rn [mv 12 3,fa 13 6 1,ld 14 13,mv 15 4,
 od 16 (.indexAddr 7 (t 14) (t 15)),la 17 7 16,ca 18 304 382 [(t 17)],od 19 (.bin .add (t 12) (t 18)),
 mv 3 19]))
  (rn [mv 10 4,ad 11 10 1,mv 4 11])))
def JT:al:=
 (sr [od 1 (.new 32 7 (t 0)),mc 2 0]
 (sr [mc 3 1]
 (.seq (sr [mc 4 0]
 (.block 0 (.loop Fe)))
 (sr [mv 20 3,mv 2 20]
 .ret))))
def NY:aB:=⟨1,21,[],[.tmp 2],JT,none⟩
abbrev Ff:al:=
  (.seq (sr [mv 33 4,fa 34 6 1,ld 35 34,ln 36 35,
 ls 37 33 36]
  (.cond (t 37)
  .skip
  (.exit 0)))
  (.seq (.block 1 (sr [mv 40 4,fa 41 6 1,ld 42 41,mv 43 4,
 od 44 (.indexAddr 7 (t 42) (t 43)),la 45 7 44,ca 46 752 383 [(t 45)],od 47 (.aR 3 1 (t 3) (t 40)),
 ow (.store false 1 (t 47) (t 46))]
  (sr [mv 48 4,od 49 (.aR 3 1 (t 3) (t 48)),ld 50 49,eq 51 50 0]
  (.cond (t 51)
  (sr [mc 2 0]
  .ret)
  .skip))))
  (rn [mv 38 4,ad 39 38 1,mv 4 39])))
def JU:al:=
  (sr [od 1 (.new 32 7 (t 0)),mc 2 0]
  (.seq (.seq (.drawn [fa 5 0 1,op 6 (.load false 1 (t 5)) [0],op 7 (.call 128 false (fc 415) [(t 6)]) [1],fa 8 6 1,
 op 9 (.load false 1 (t 8)) [3],op 10 (.len (t 9)) [4],op 11 (.bin .neq (t 7) (t 10)) [2,5],op 12 (.move (t 11)) [6,2],
 ⟨some 13,.fieldAddr 0 (t 1),some (12,false),[7]⟩,⟨some 14,.load false 1 (t 13),some (12,false),[8,7]⟩,⟨some 15,.bin .neq (t 14) (ic 1),some (12,false),[9,7]⟩,⟨some 16,.move (t 15),some (12,false),[10,7,7]⟩,
 ⟨some 17,.fieldAddr 2 (t 1),some (16,true),[11]⟩,⟨some 18,.load true 4 (t 17),some (16,true),[12,11]⟩,⟨some 19,.build [i0,i0,.bool false,.str []] [],some (16,true),[11]⟩,⟨some 20,.D6 true [1,1,0,2] (t 18) (t 19),some (16,true),[13,14,11]⟩,
 ⟨some 21,.pick (t 16) (t 20) (.const (.bool false)),some (12,false),[11,15,7]⟩,op 22 (.pick (t 12) (.const (.bool true)) (t 21)) [7,16],op 23 (.move (t 22)) [17,11],⟨some 24,.fieldAddr 0 (t 1),some (23,false),[18]⟩,
 ⟨some 25,.load false 1 (t 24),some (23,false),[19,18]⟩,⟨some 26,.bin .neq (t 25) (ic 2),some (23,false),[20,18]⟩,⟨some 27,.move (t 26),some (23,false),[21,18,18]⟩,⟨some 28,.fieldAddr 1 (t 1),some (27,true),[22]⟩,
 ⟨some 29,.load false 1 (t 28),some (27,true),[23,22]⟩,⟨some 30,.bin .neq (t 29) (ic 0),some (27,true),[24,22]⟩,⟨some 31,.pick (t 27) (t 30) (.const (.bool false)),some (23,false),[22,25,18]⟩,op 32 (.pick (t 23) (.const (.bool true)) (t 31)) [18,26]])
  (.cond (t 32)
  (sr [mc 2 0]
  .ret)
  .skip))
  (sr [od 3 (.new 64 3 (.const (.agg [i0,i0,i0])))]
  (.seq (sr [mc 4 0]
  (.block 0 (.loop Ff)))
  (.seq (.block 2 (sr [fa 61 0 1,ld 62 61,eq 63 62 1,mv 60 63]
  (.cond (t 60)
  (sr [fa 64 2 1,la 65 4 64,ca 66 1072 389 [(t 65)]]
  (.cond (t 66)
  (sr [fa 67 2 1,fa 68 0 67,ld 69 68,mv 2 69]
  .ret)
  .skip))
  (sr [fa 71 0 1,ld 72 71,eq 73 72 2,mv 70 73]
  (.cond (t 70)
  (sr [fa 74 1 1,ld 75 74,ca 76 1232 351 [(t 75)],mv 2 76]
  .ret)
  (sr [fa 78 0 1,ld 79 78,eq 80 79 3,mv 77 80]
  (.cond (t 77)
  (sr [od 81 (.aR 3 1 (t 3) (ic 0)),ld 82 81,eq 83 82 2]
  (.cond (t 83)
  (sr [mc 2 2]
  .ret)
  .skip))
  (sr [fa 85 0 1,ld 86 85,eq 87 86 4,mv 88 87,
 og 89 (.fieldAddr 0 (t 1)) 88 false,og 90 (.load false 1 (t 89)) 88 false,og 91 (.bin .eql (t 90) (ic 5)) 88 false,od 92 (.pick (t 88) (.const (.bool true)) (t 91)),
 mv 84 92]
  (.cond (t 84)
  (sr [od 93 (.aR 3 1 (t 3) (ic 0)),ld 94 93,eq 95 94 2,mv 96 95,
 og 97 (.aR 3 1 (t 3) (ic 1)) 96 true,og 98 (.load false 1 (t 97)) 96 true,og 99 (.bin .eql (t 98) (ic 2)) 96 true,od 100 (.pick (t 96) (t 99) (.const (.bool false)))]
  (.cond (t 100)
  (sr [mc 2 2]
  .ret)
  .skip))
  (sr [fa 102 0 1,ld 103 102,eq 104 103 6,mv 101 104]
  (.cond (t 101)
  (sr [od 105 (.aR 3 1 (t 3) (ic 0)),ld 106 105,od 107 (.aR 3 1 (t 3) (ic 1)),ld 108 107,
 od 109 (.bin .eql (t 106) (t 108))]
  (.cond (t 109)
  (sr [mc 2 2]
  .ret)
  .skip))
  (sr [fa 111 0 1,ld 112 111,eq 113 112 7,mv 110 113]
  (.cond (t 110)
  (sr [od 114 (.aR 3 1 (t 3) (ic 0)),ld 115 114,eq 116 115 1,mv 117 116,
 og 118 (.aR 3 1 (t 3) (ic 1)) 117 true,og 119 (.load false 1 (t 118)) 117 true,og 120 (.bin .eql (t 119) (ic 1)) 117 true,od 121 (.pick (t 117) (t 120) (.const (.bool false)))]
  (.cond (t 121)
  (sr [mc 2 2]
  .ret)
  .skip))
  (sr [fa 123 0 1,ld 124 123,eq 125 124 13,mv 122 125]
  (.cond (t 122)
  (sr [od 126 (.aR 3 1 (t 3) (ic 0)),ld 127 126,eq 128 127 2,mv 129 128,
 og 130 (.aR 3 1 (t 3) (ic 1)) 129 true,og 131 (.load false 1 (t 130)) 129 true,og 132 (.aR 3 1 (t 3) (ic 2)) 129 true,og 133 (.load false 1 (t 132)) 129 true,
 og 134 (.bin .eql (t 131) (t 133)) 129 true,od 135 (.pick (t 129) (t 134) (.const (.bool false)))]
  (.cond (t 135)
  (sr [od 136 (.aR 3 1 (t 3) (ic 1)),ld 137 136,mv 2 137]
  .ret)
  .skip))
  (sr [od 52 (.aR 3 1 (t 3) (ic 0)),ld 53 52,eq 54 53 1,mv 55 54,
 og 56 (.aR 3 1 (t 3) (ic 1)) 55 true,og 57 (.load false 1 (t 56)) 55 true,og 58 (.bin .eql (t 57) (ic 1)) 55 true,od 59 (.pick (t 55) (t 58) (.const (.bool false)))]
  (.cond (t 59)
  (sr [mc 2 1]
  .ret)
  .skip)))))))))))))))))
  (sr [mc 2 0]
  .ret))))))
def NZ:aB:=⟨1,138,[],[.tmp 2],JU,none⟩
def JV:al:=
  (sr [od 1 (.new 32 5 (t 0)),od 2 (.move (.const (.bool false)))]
  (sr [fa 3 0 1,ld 4 3,fa 5 1 1,ld 6 5,
 od 7 (.bin .eql (t 4) (t 6)),mv 2 7]
  .ret))
def N0:aB:=⟨1,8,[],[.tmp 2],JV,none⟩
def JW:al:=
 (sr [mc 4 0]
 (sr [mv 5 0,mv 6 1,ca 7 128 437 [(t 5),(t 6),(.const (.bool true))],mv 4 7]
 .ret))
def N1:aB:=⟨2,8,[],[.tmp 4],JW,none⟩
def JX:al:=
  (sr [od 2 (.move (.const (.bool false)))]
  (sr [mv 3 0,od 4 (.bin .lss (t 3) (.const (.int .i32 32))),mv 5 4,og 6 (.move (t 0)) 5 false,
 og 7 (.bin .gtr (t 6) (.const (.int .i32 126))) 5 false,od 8 (.pick (t 5) (.const (.bool true)) (t 7)),mv 9 8,og 10 (.move (t 0)) 9 false,
 og 11 (.bin .eql (t 10) (.const (.int .i32 34))) 9 false,od 12 (.pick (t 9) (.const (.bool true)) (t 11)),mv 2 12]
  .ret))
def N2:aB:=⟨1,13,[],[.tmp 2],JX,none⟩
def JY:al:=
  (sr [od 3 (.new 64 3 (t 0)),od 4 (.new 80 3 (t 1)),od 5 (.new 96 3 (t 2)),mc 6 0]
  (.seq (sr [la 11 3 3,ca 12 208 270 [(t 11)],mv 13 12,og 14 (.load true 3 (t 4)) 13 false,
 og 15 (.call 256 false (fc 270) [(t 14)]) 13 false,od 16 (.pick (t 13) (.const (.bool true)) (t 15)),mv 17 16,og 18 (.load true 3 (t 5)) 17 false,
 og 19 (.call 320 false (fc 270) [(t 18)]) 17 false,od 20 (.pick (t 17) (.const (.bool true)) (t 19))]
  (.cond (t 20)
  (sr [mc 6 0]
  .ret)
  .skip))
  (sr [fa 21 0 4,ld 22 21,fa 23 2 3,ld 24 23,
 od 25 (.bin .mul (t 22) (t 24)),fa 26 0 3,ld 27 26,fa 28 2 4,
 ld 29 28,od 30 (.bin .mul (t 27) (t 29)),od 31 (.bin .sub (t 25) (t 30)),mv 7 31]
  (sr [fa 32 1 4,ld 33 32,fa 34 2 3,ld 35 34,
 od 36 (.bin .mul (t 33) (t 35)),fa 37 1 3,ld 38 37,fa 39 2 4,
 ld 40 39,od 41 (.bin .mul (t 38) (t 40)),od 42 (.bin .sub (t 36) (t 41)),mv 8 42]
  (sr [fa 43 0 5,ld 44 43,fa 45 2 3,ld 46 45,
 od 47 (.bin .mul (t 44) (t 46)),fa 48 0 3,ld 49 48,fa 50 2 5,
 ld 51 50,od 52 (.bin .mul (t 49) (t 51)),od 53 (.bin .sub (t 47) (t 52)),mv 9 53]
  (sr [fa 54 1 5,ld 55 54,fa 56 2 3,ld 57 56,
 od 58 (.bin .mul (t 55) (t 57)),fa 59 1 3,ld 60 59,fa 61 2 5,
 ld 62 61,od 63 (.bin .mul (t 60) (t 62)),od 64 (.bin .sub (t 58) (t 63)),mv 10 64]
  (sr [mv 65 7,mv 66 10,mv 67 8,mv 68 9,
 ca 69 1120 271 [(t 65),(t 66),(t 67),(t 68)],mv 6 69]
  .ret)))))))
def JZ:aB:=⟨3,70,[],[.tmp 6],JY,none⟩
def J0:al:=
  (sr [od 4 (.new 80 2 (t 1)),od 5 (.new 96 2 (t 2)),mc 6 0]
  (sr [mv 9 0,od 10 (.build [i0,i0] [(0,1,(t 9)),(1,1,(ic 1))]),la 11 2 4,ca 12 208 238 [(t 10),(t 11)],
 mv 7 12]
  (sr [mv 13 0,od 14 (.build [i0,i0] [(0,1,(t 13)),(1,1,(ic 1))]),la 15 2 5,ca 16 272 238 [(t 14),(t 15)],
 mv 8 16]
  (.seq (sr [mv 17 7,mv 18 8,od 19 (.bin .eql (t 17) (t 18))]
  (.cond (t 19)
  (sr [mv 20 7,mv 6 20]
  .ret)
  .skip))
  (sr [mc 6 0]
  .ret)))))
def J1:aB:=⟨3,21,[],[.tmp 6],J0,none⟩
def J2:al:=
  (sr [od 2 (.new 48 3 (t 0)),od 3 (.new 64 2 (t 1)),od 4 (.move (.const (.bool false)))]
  (sr [fa 5 1 2,ld 6 5,fa 7 2 2,ld 8 7,
 od 9 (.build [i0,i0] [(0,1,(t 6)),(1,1,(t 8))]),fa 10 1 3,ld 11 10,od 12 (.build [i0,i0] [(0,1,(t 11)),(1,1,(ic 1))]),
 ca 13 224 238 [(t 9),(t 12)],od 14 (.bin .gtr (t 13) (ic 0)),mv 4 14]
  .ret))
def J3:aB:=⟨2,15,[],[.tmp 4],J2,none⟩
def J4:al:=
  (sr [od 2 (.new 48 2 (t 0)),od 3 (.new 64 2 (t 1)),mc 4 0]
  (.seq (sr [fa 5 1 2,ld 6 5,od 7 (.bin .lss (t 6) (ic 1)),mv 8 7,
 og 9 (.fieldAddr 1 (t 3)) 8 false,og 10 (.load false 1 (t 9)) 8 false,og 11 (.bin .lss (t 10) (ic 1)) 8 false,od 12 (.pick (t 8) (.const (.bool true)) (t 11))]
  (.cond (t 12)
  (sr [mc 4 0]
  .ret)
  .skip))
  (sr [fa 13 0 2,ld 14 13,fa 15 1 3,ld 16 15,
 fa 17 0 3,ld 18 17,fa 19 1 2,ld 20 19,
 ca 21 352 271 [(t 14),(t 16),(t 18),(t 20)],mv 4 21]
  .ret)))
def J5:aB:=⟨2,22,[],[.tmp 4],J4,none⟩
abbrev Fg:al:=
  (sr [ls 9 8 7]
  (.seq (.cond (t 9)
  .skip
  (.exit 0))
  (.seq (.block 1 (sr [mv 10 8,mv 5 10]
  (sr [mv 11 1,mv 12 0,mv 13 5,od 14 (.indexAddr 1 (t 12) (t 13)),
 ld 15 14,od 16 (.call 272 false (t 11) [(t 15)])]
  (.cond (t 16)
  (sr [mv 17 5,mv 4 17]
  .ret)
  .skip))))
  (rn [ad 18 8 1,mv 8 18]))))
def J6:al:=
 (sr [mc 4 0]
 (.seq (sr [mv 6 0,ln 7 6,mc 8 0]
 (.block 0 (.loop Fg)))
 (sr [mc 4 (-1)]
 .ret)))
def N3:aB:=⟨2,19,[],[.tmp 4],J6,none⟩
def J7:al:=
  (sr [od 4 (.move (.const (.bool false)))]
  (sr [mv 5 0,mv 6 1,ca 7 128 438 [(t 5),(t 6)],od 8 (.bin .geq (t 7) (ic 0)),
 mv 4 8]
  .ret))
def N4:aB:=⟨2,9,[],[.tmp 4],J7,none⟩
def J8:al:=
  (sr [od 3 (.move (.const (.bool false)))]
  (sr [fa 4 2 1,ld 5 4,mv 6 0,ca 7 128 349 [(t 5),(t 6)],
 mv 3 7]
  .ret))
def N5:aB:=⟨2,8,[],[.tmp 3],J8,none⟩
def J9:al:=
 (sr [mc 2 0]
 (sr [mv 3 0,od 4 (.min [(t 3),(ic 1073741824)]),od 5 (.max [(ic (-1073741824)),(t 4)]),mv 2 5]
 .ret))
def N6:aB:=⟨1,6,[],[.tmp 2],J9,none⟩
def Ka:al:=
  (sr [od 2 (.move (.const (.int .u8 0)))]
  (.seq (sr [mv 3 0,od 4 (.bin .geq (t 3) (.const (.int .u8 97))),mv 5 4,og 6 (.move (t 0)) 5 true,
 og 7 (.bin .leq (t 6) (.const (.int .u8 122))) 5 true,od 8 (.pick (t 5) (t 7) (.const (.bool false)))]
  (.cond (t 8)
  (sr [od 2 (.move (.const (.int .u8 97)))]
  .ret)
  .skip))
  (.seq (sr [mv 9 0,od 10 (.bin .geq (t 9) (.const (.int .u8 48))),mv 11 10,og 12 (.move (t 0)) 11 true,
 og 13 (.bin .leq (t 12) (.const (.int .u8 57))) 11 true,od 14 (.pick (t 11) (t 13) (.const (.bool false)))]
  (.cond (t 14)
  (sr [od 2 (.move (.const (.int .u8 48)))]
  .ret)
  .skip))
  (sr [mv 15 0,mv 2 15]
  .ret))))
def N7:aB:=⟨1,16,[],[.tmp 2],Ka,none⟩
def Kb:al:=
 (sr [od 0 (.move (.const (.lit 1 [])))]
 (sr [od 1 (.buildSlice 32 1 (.str []) 9 [(0,(.const (.str [107,105,110,100]))),(1,(.const (.str [99,108,97,115,115]))),(2,(.const (.str [110,97,109,101]))),(3,(.const (.str [119,101,105,103,104,116]))),(4,(.const (.str [108,101,118,101,108]))),(5,(.const (.str [115,116,97,105,114,115]))),(6,(.const (.str [115,99,97,108,101]))),(7,(.const (.str [104,111,117,114]))),(8,(.const (.str [114,101,97,100,101,114])))]),mv 0 1]
 .ret))
def N8:aB:=⟨0,2,[],[.tmp 0],Kb,none⟩
abbrev Fh:al:=
  (.seq (sr [mv 46 6,mv 47 0,od 48 (.dN (t 47)),ls 49 46 48]
  (.cond (t 49)
  .skip
  (.exit 1)))
  (.seq (.block 2 (sr [mv 52 0,mv 53 6,od 54 (.cf (t 52) (t 53)),od 55 (.bin .neq (t 54) (.const (.int .u8 45)))]
  (.cond (t 55)
  (rn [mv 56 5,od 57 (.bin .mul (ic 10) (t 56)),mv 58 0,mv 59 6,
 od 60 (.cf (t 58) (t 59)),od 61 (.bin .sub (t 60) (.const (.int .u8 48))),od 62 (.iF .i64 (t 61)),od 63 (.bin .add (t 57) (t 62)),
 mv 5 63])
  .skip)))
  (rn [mv 50 6,ad 51 50 1,mv 6 51])))
def Kc:al:=
  (sr [od 2 (.new 48 7 (.const zE)),od 3 (.move (.const (.bool false)))]
  (sr [od 7 (.build [i0,i0,i0,i0,.bool false,.str [],.lit 7 []] [(0,1,(ic 1))]),od 4 (.new 80 7 (.const zE)),ow (.store true 7 (t 4) (t 7))]
  (.seq (.block 0 (sr [mv 10 0,od 11 (.bin .eql (t 10) (.const (.str [116,114,117,101]))),mv 12 11,og 13 (.move (t 0)) 12 false,
 og 14 (.bin .eql (t 13) (.const (.str [102,97,108,115,101]))) 12 false,od 15 (.pick (t 12) (.const (.bool true)) (t 14)),mv 9 15]
  (.cond (t 9)
  (rn [mv 16 0,od 17 (.bin .eql (t 16) (.const (.str [116,114,117,101]))),ca 18 304 369 [(t 17)],fa 19 2 4,
 ow (.store true 4 (t 19) (t 18))])
  (sr [mv 21 0,od 22 (.cf (t 21) (ic 0)),od 23 (.bin .eql (t 22) (.const (.int .u8 34))),mv 20 23]
  (.cond (t 20)
  (rn [mv 24 0,mv 25 0,od 26 (.dN (t 25)),od 27 (.bin .sub (t 26) (ic 1)),
 od 28 (.dM (t 24) (some (ic 1)) (some (t 27))),ca 29 480 336 [(t 28)],fa 30 2 4,ow (.store true 4 (t 30) (t 29))])
  (sr [mv 32 0,od 33 (.cf (t 32) (ic 0)),ca 34 560 439 [(t 33)],od 35 (.bin .eql (t 34) (.const (.int .u8 48))),
 mv 36 35,og 37 (.move (t 0)) 36 false,og 38 (.cf (t 37) (ic 0)) 36 false,og 39 (.bin .eql (t 38) (.const (.int .u8 45))) 36 false,
 og 40 (.move (t 39)) 36 false,og 41 (.move (t 0)) 40 true,og 42 (.dN (t 41)) 40 true,og 43 (.bin .gtr (t 42) (ic 1)) 40 true,
 og 44 (.pick (t 40) (t 43) (.const (.bool false))) 36 false,od 45 (.pick (t 36) (.const (.bool true)) (t 44)),mv 31 45]
  (.cond (t 31)
  (sr [mc 5 0]
  (.seq (sr [mc 6 0]
  (.block 1 (.loop Fh)))
  (.seq (sr [mv 64 0,od 65 (.cf (t 64) (ic 0)),od 66 (.bin .eql (t 65) (.const (.int .u8 45)))]
  (.cond (t 66)
  (rn [mv 67 5,od 68 (.un .neg (t 67)),mv 5 68])
  .skip))
  (rn [mv 69 5,ca 70 1136 335 [(t 69)],fa 71 2 4,ow (.store true 4 (t 71) (t 70))]))))
  (sr [od 8 (.build [i0,i0,i0,i0,.bool false,.str [],.lit 7 []] []),ow (.store true 7 (t 2) (t 8)),od 3 (.move (.const (.bool false)))]
  .ret))))))))
  (sr [la 72 7 4,ow (.store true 7 (t 2) (t 72)),od 3 (.move (.const (.bool true)))]
  .ret))))
def N9:aB:=⟨1,73,[],[.cell 2 true 7,.tmp 3],Kc,none⟩
def Kd:al:=
  (sr [mc 2 0]
  (.seq (sr [mv 3 0]
  (.block 0 (.seq (sr [eq 5 3 1,mv 4 5]
  (.cond (t 4)
  .skip
  (rn [eq 6 3 2,mv 4 6])))
  (.cond (t 4)
  (sr [mc 2 0]
  .ret)
  (sr [eq 8 3 3,mv 7 8]
  (.cond (t 7)
  (sr [mc 2 1]
  .ret)
  (sr [eq 10 3 13,mv 9 10]
  (.cond (t 9)
  (sr [mc 2 3]
  .ret)
  .skip))))))))
  (.seq (sr [mv 11 0,od 12 (.bin .geq (t 11) (ic 4)),mv 13 12,og 14 (.move (t 0)) 13 true,
 og 15 (.bin .leq (t 14) (ic 12)) 13 true,od 16 (.pick (t 13) (t 15) (.const (.bool false)))]
  (.cond (t 16)
  (sr [mc 2 2]
  .ret)
  .skip))
  (sr [mc 2 (-1)]
  .ret))))
def Oa:aB:=⟨1,17,[],[.tmp 2],Kd,none⟩
abbrev Fi:al:=
  (.seq (sr [mv 38 3,fa 39 3 1,ld 40 39,od 41 (.dN (t 40)),
 ls 42 38 41]
  (.cond (t 42)
  .skip
  (.exit 1)))
  (.seq (.block 2 (sr [fa 45 3 1,ld 46 45,mv 47 3,od 48 (.cf (t 46) (t 47)),
 od 49 (.bin .lss (t 48) (.const (.int .u8 32))),mv 50 49,og 51 (.fieldAddr 3 (t 1)) 50 false,og 52 (.load false 1 (t 51)) 50 false,
 og 53 (.move (t 3)) 50 false,og 54 (.cf (t 52) (t 53)) 50 false,og 55 (.bin .gtr (t 54) (.const (.int .u8 126))) 50 false,od 56 (.pick (t 50) (.const (.bool true)) (t 55)),
 mv 57 56,og 58 (.fieldAddr 3 (t 1)) 57 false,og 59 (.load false 1 (t 58)) 57 false,og 60 (.move (t 3)) 57 false,
 og 61 (.cf (t 59) (t 60)) 57 false,og 62 (.bin .eql (t 61) (.const (.int .u8 34))) 57 false,od 63 (.pick (t 57) (.const (.bool true)) (t 62))]
  (.cond (t 63)
  (sr [od 2 (.move (.const (.bool false)))]
  .ret)
  .skip)))
  (rn [mv 43 3,ad 44 43 1,mv 3 44])))
def Ke:al:=
  (sr [od 1 (.new 32 4 (t 0)),od 2 (.move (.const (.bool false)))]
  (.seq (sr [fa 4 0 1,ld 5 4]
  (.block 0 (sr [eq 7 5 1,mv 6 7]
  (.cond (t 6)
  (sr [fa 8 1 1,ld 9 8,od 10 (.bin .geq (t 9) (ic (-1073741824))),mv 11 10,
 og 12 (.fieldAddr 1 (t 1)) 11 true,og 13 (.load false 1 (t 12)) 11 true,og 14 (.bin .leq (t 13) (ic 1073741824)) 11 true,od 15 (.pick (t 11) (t 14) (.const (.bool false))),
 mv 16 15,og 17 (.fieldAddr 2 (t 1)) 16 true,og 18 (.load false 1 (t 17)) 16 true,og 19 (.un .not (t 18)) 16 true,
 od 20 (.pick (t 16) (t 19) (.const (.bool false))),mv 21 20,og 22 (.fieldAddr 3 (t 1)) 21 true,og 23 (.load false 1 (t 22)) 21 true,
 og 24 (.bin .eql (t 23) (.const (.str []))) 21 true,od 25 (.pick (t 21) (t 24) (.const (.bool false))),mv 2 25]
  .ret)
  (sr [eq 27 5 2,mv 26 27]
  (.cond (t 26)
  (sr [fa 28 1 1,ld 29 28,eq 30 29 0,mv 31 30,
 og 32 (.fieldAddr 3 (t 1)) 31 true,og 33 (.load false 1 (t 32)) 31 true,og 34 (.bin .eql (t 33) (.const (.str []))) 31 true,od 35 (.pick (t 31) (t 34) (.const (.bool false))),
 mv 2 35]
  .ret)
  (sr [eq 37 5 3,mv 36 37]
  (.cond (t 36)
  (.seq (sr [mc 3 0]
  (.block 1 (.loop Fi)))
  (sr [fa 64 1 1,ld 65 64,eq 66 65 0,mv 67 66,
 og 68 (.fieldAddr 2 (t 1)) 67 true,og 69 (.load false 1 (t 68)) 67 true,og 70 (.un .not (t 69)) 67 true,od 71 (.pick (t 67) (t 70) (.const (.bool false))),
 mv 72 71,og 73 (.fieldAddr 3 (t 1)) 72 true,og 74 (.load false 1 (t 73)) 72 true,og 75 (.dN (t 74)) 72 true,
 og 76 (.bin .leq (t 75) (ic 24)) 72 true,od 77 (.pick (t 72) (t 76) (.const (.bool false))),mv 2 77]
  .ret))
  .skip))))))))
  (sr [od 2 (.move (.const (.bool false)))]
  .ret)))
def Ob:aB:=⟨1,78,[],[.tmp 2],Ke,none⟩
def Kf:al:=
  (sr [mc 2 0]
  (.seq (sr [mv 3 0,od 4 (.bin .lss (t 3) (ic 1)),mv 5 4,og 6 (.move (t 0)) 5 false,
 og 7 (.bin .gtr (t 6) (ic 9)) 5 false,od 8 (.pick (t 5) (.const (.bool true)) (t 7))]
  (.cond (t 8)
  (sr [mc 2 0]
  .ret)
  .skip))
  (sr [od 9 (.buildSlice 160 1 (i0) 9 [(0,(ic 1)),(1,(ic 3)),(2,(ic 3)),(3,(ic 1)),(4,(ic 1)),(5,(ic 2)),(6,(ic 1)),(7,(ic 1)),(8,(ic 1))]),mv 10 0,od 11 (.bin .sub (t 10) (ic 1)),od 12 (.indexAddr 1 (t 9) (t 11)),
 ld 13 12,mv 2 13]
  .ret)))
def Oc:aB:=⟨1,14,[],[.tmp 2],Kf,none⟩
abbrev Fj:al:=
  (sr [od 11 (.mR (t 10)),xt 12 11 0]
  (.seq (.cond (t 12)
  .skip
  (.exit 0))
  (.block 1 (sr [xt 13 11 1,xt 14 11 2,mv 7 13,mv 8 14]
  (sr [mv 15 1,mv 16 8,od 17 (.call 288 false (t 15) [(t 16)]),mv 18 2,
 od 19 (.L3 false (t 17) (t 18))]
  (.cond (t 19)
  (sr [mv 20 7,mv 6 20]
  .ret)
  .skip))))))
def Kg:al:=
 (sr [mc 6 0]
 (.seq (sr [mv 9 0,od 10 (.mQ 176 (t 9))]
 (.block 0 (.loop Fj)))
 (sr [mc 6 (-1)]
 .ret)))
def Od:aB:=⟨3,21,[],[.tmp 6],Kg,none⟩
def Kh:al:=
  (sr [od 1 (.new 32 3 (t 0)),od 2 (.move (.const (.bool false)))]
  (sr [fa 3 2 1,ld 4 3,ca 5 96 282 [(t 4),(ic 1),(ic 4194304)],od 6 (.un .not (t 5)),
 mv 7 6,og 8 (.fieldAddr 0 (t 1)) 7 false,og 9 (.load false 1 (t 8)) 7 false,og 10 (.call 176 false (fc 282) [(t 9),(ic (-137438953472)),(ic 137438953472)]) 7 false,
 og 11 (.un .not (t 10)) 7 false,od 12 (.pick (t 7) (.const (.bool true)) (t 11)),mv 13 12,og 14 (.fieldAddr 1 (t 1)) 13 false,
 og 15 (.load false 1 (t 14)) 13 false,og 16 (.call 272 false (fc 282) [(t 15),(ic (-137438953472)),(ic 137438953472)]) 13 false,og 17 (.un .not (t 16)) 13 false,od 18 (.pick (t 13) (.const (.bool true)) (t 17)),
 mv 2 18]
  .ret))
def Ki:aB:=⟨1,19,[],[.tmp 2],Kh,none⟩
abbrev Fk:al:=
  (.seq (sr [mv 41 13,od 42 (.bin .lss (t 41) (ic 2))]
  (.cond (t 42)
  .skip
  (.exit 0)))
  (.seq (.block 1 (.seq (.seq (.drawn [mv 45 13,op 46 (.aR 2 1 (t 11) (t 45)) [0],op 47 (.load false 1 (t 46)) [1],mv 48 13,
 op 49 (.aR 2 1 (t 12) (t 48)) [3],op 50 (.load false 1 (t 49)) [4],op 51 (.bin .gtr (t 47) (t 50)) [2,5]])
  (.cond (t 51)
  (sr [mv 52 9,mv 8 52]
  .ret)
  .skip))
  (.seq (.drawn [mv 53 13,op 54 (.aR 2 1 (t 11) (t 53)) [0],op 55 (.load false 1 (t 54)) [1],mv 56 13,
 op 57 (.aR 2 1 (t 12) (t 56)) [3],op 58 (.load false 1 (t 57)) [4],op 59 (.bin .lss (t 55) (t 58)) [2,5]])
  (.cond (t 59)
  (sr [mv 60 9,od 61 (.un .neg (t 60)),mv 8 61]
  .ret)
  .skip))))
  (rn [mv 43 13,ad 44 43 1,mv 13 44])))
def Kj:al:=
  (sr [mc 8 0]
  (sr [mv 14 0,ca 15 256 283 [(t 14)],mv 16 1,ca 17 288 283 [(t 16)],
 od 18 (.bin .mul (t 15) (t 17)),mv 9 18]
  (sr [mv 19 2,ca 20 336 283 [(t 19)],mv 21 3,ca 22 368 283 [(t 21)],
 od 23 (.bin .mul (t 20) (t 22)),mv 10 23]
  (.seq (sr [mv 24 9,mv 25 10,od 26 (.bin .neq (t 24) (t 25))]
  (.cond (t 26)
  (sr [mv 27 9,mv 28 10,od 29 (.bin .sub (t 27) (t 28)),ca 30 496 283 [(t 29)],
 mv 8 30]
  .ret)
  .skip))
  (sr [mv 31 0,ca 32 528 285 [(t 31)],mv 33 1,ca 34 560 285 [(t 33)],
 ca 35 576 284 [(t 32),(t 34)],od 11 (.new 192 2 (.const (.agg [.int .u64 0,.int .u64 0]))),ow (.store true 2 (t 11) (t 35))]
  (sr [mv 36 2,ca 37 608 285 [(t 36)],mv 38 3,ca 39 640 285 [(t 38)],
 ca 40 656 284 [(t 37),(t 39)],od 12 (.new 208 2 (.const (.agg [.int .u64 0,.int .u64 0]))),ow (.store true 2 (t 12) (t 40))]
  (.seq (sr [mc 13 0]
  (.block 0 (.loop Fk)))
  (sr [mc 8 0]
  .ret))))))))
def Kk:aB:=⟨4,62,[],[.tmp 8],Kj,none⟩
abbrev Fl:al:=
  (sr [ls 9 8 7]
  (.seq (.cond (t 9)
  .skip
  (.exit 0))
  (.seq (.block 1 (sr [mv 10 8,mv 5 10]
  (sr [mv 11 1,mv 12 0,mv 13 5,od 14 (.indexAddr 1 (t 12) (t 13)),
 ld 15 14,od 16 (.call 272 false (t 11) [(t 15)])]
  (.cond (t 16)
  (sr [mv 17 5,mv 4 17]
  .ret)
  .skip))))
  (rn [ad 18 8 1,mv 8 18]))))
def Kl:al:=
 (sr [mc 4 0]
 (.seq (sr [mv 6 0,ln 7 6,mc 8 0]
 (.block 0 (.loop Fl)))
 (sr [mc 4 (-1)]
 .ret)))
def Oe:aB:=⟨2,19,[],[.tmp 4],Kl,none⟩
def Km:al:=
 (sr [od 2 (.new 48 4 (.const (.agg [i0,i0,.bool false,.str []])))]
 (sr [mv 3 0,od 4 (.build [i0,i0,.bool false,.str []] [(0,1,(ic 2)),(2,1,(t 3))]),ow (.store true 4 (t 2) (t 4))]
 .ret))
def Og:aB:=⟨1,5,[],[.cell 2 true 4],Km,none⟩
def Ko:al:=
 (sr [od 2 (.new 48 4 (.const (.agg [i0,i0,.bool false,.str []])))]
 (sr [mv 3 0,od 4 (.build [i0,i0,.bool false,.str []] [(0,1,(ic 3)),(3,1,(t 3))]),ow (.store true 4 (t 2) (t 4))]
 .ret))
def Oi:aB:=⟨1,5,[],[.cell 2 true 4],Ko,none⟩
def Kp:al:=
 (sr [od 2 (.new 48 4 (.const (.agg [i0,i0,.bool false,.str []])))]
 (sr [mv 3 0,od 4 (.build [i0,i0,.bool false,.str []] [(0,1,(ic 1)),(1,1,(t 3))]),ow (.store true 4 (t 2) (t 4))]
 .ret))
def Oj:aB:=⟨1,5,[],[.cell 2 true 4],Kp,none⟩
def Kq:al:=
  (sr [od 6 (.move (.const (.bool false)))]
  (sr [mv 7 1,mv 8 0,od 9 (.bin .leq (t 7) (t 8)),mv 10 9,
 og 11 (.move (t 0)) 10 true,og 12 (.move (t 2)) 10 true,og 13 (.bin .leq (t 11) (t 12)) 10 true,od 14 (.pick (t 10) (t 13) (.const (.bool false))),
 mv 6 14]
  .ret))
def Kr:aB:=⟨3,15,[],[.tmp 6],Kq,none⟩
def Ks:al:=
 (sr [mc 2 0]
 (.seq (sr [mv 3 0,od 4 (.bin .gtr (t 3) (ic 0))]
 (.cond (t 4)
 (sr [mc 2 1]
 .ret)
 .skip))
 (.seq (sr [mv 5 0,od 6 (.bin .lss (t 5) (ic 0))]
 (.cond (t 6)
 (sr [mc 2 (-1)]
 .ret)
 .skip))
 (sr [mc 2 0]
 .ret))))
def Kt:aB:=⟨1,7,[],[.tmp 2],Ks,none⟩
def Ku:al:=
  (sr [od 4 (.new 80 2 (.const (.agg [.int .u64 0,.int .u64 0])))]
  (sr [od 5 (.move (.const (.int .u64 4294967295)))]
  (sr [mv 12 0,od 13 (.bin .shr (t 12) (.const (.int .u64 32))),mv 6 13]
  (sr [mv 14 0,mv 15 5,od 16 (.bin .and (t 14) (t 15)),mv 7 16]
  (sr [mv 17 1,od 18 (.bin .shr (t 17) (.const (.int .u64 32))),mv 8 18]
  (sr [mv 19 1,mv 20 5,od 21 (.bin .and (t 19) (t 20)),mv 9 21]
  (sr [mv 22 6,mv 23 9,od 24 (.bin .mul (t 22) (t 23)),mv 25 7,
 mv 26 9,od 27 (.bin .mul (t 25) (t 26)),od 28 (.bin .shr (t 27) (.const (.int .u64 32))),od 29 (.bin .add (t 24) (t 28)),
 mv 10 29]
  (sr [mv 30 7,mv 31 8,od 32 (.bin .mul (t 30) (t 31)),mv 33 10,
 mv 34 5,od 35 (.bin .and (t 33) (t 34)),od 36 (.bin .add (t 32) (t 35)),mv 11 36]
  (sr [mv 37 6,mv 38 8,od 39 (.bin .mul (t 37) (t 38)),mv 40 10,
 od 41 (.bin .shr (t 40) (.const (.int .u64 32))),od 42 (.bin .add (t 39) (t 41)),mv 43 11,od 44 (.bin .shr (t 43) (.const (.int .u64 32))),
 od 45 (.bin .add (t 42) (t 44)),mv 46 0,mv 47 1,od 48 (.bin .mul (t 46) (t 47)),
 od 49 (.build [.int .u64 0,.int .u64 0] [(0,1,(t 45)),(1,1,(t 48))]),ow (.store true 2 (t 4) (t 49))]
  .ret)))))))))
def Kv:aB:=⟨2,50,[],[.cell 4 true 2],Ku,none⟩
def Kw:al:=
 (sr [od 2 (.move (.const (.int .u64 0)))]
 (.seq (sr [mv 3 0,od 4 (.bin .lss (t 3) (ic 0))]
 (.cond (t 4)
 (sr [mv 5 0,od 6 (.iF .u64 (t 5)),od 7 (.un .neg (t 6)),mv 2 7]
 .ret)
 .skip))
 (sr [mv 8 0,od 9 (.iF .u64 (t 8)),mv 2 9]
 .ret)))
def Kx:aB:=⟨1,10,[],[.tmp 2],Kw,none⟩
def Cw:List (Nat×aB):=[(445,Hr),(311,Ht),(77,f77),(79,f79),(446,Hx),(447,Hz),(448,HB),(331,MN),(322,MO),(83,f83),(84,f84),(85,f85),(86,f86),(87,f87),(92,f92),(93,f93),(94,f94),(95,f95),(449,HR),(450,HT),(451,HV),(452,HX),(453,HZ),(454,H2),(455,H4),(456,H6),(457,H8),(458,Ia),(459,Ic),(460,Ig),(461,Ii),(462,Ik),(317,MX),(366,MY),(319,MZ),(320,M0),(346,M1),(347,M3),(348,M4),(349,M5),(350,M6),(113,f113),(114,f114),(115,f115),(116,f116),(117,f117),(118,f118),(119,f119),(120,f120),(121,f121),(122,f122),(130,f130),(131,f131),(27,f27),(429,IK),(430,IM),(463,M8),(464,IQ),(338,M9),(339,Na),(340,Nb),(400,Nc),(343,Nd),(344,Nf),(390,Ng),(391,Nh),(392,Ni),(393,Nj),(394,Nk),(395,Nl),(161,f161),(162,f162),(163,f163),(164,f164),(41,f41),(370,Nn),(371,No),(372,Np),(374,Nq),(375,Nr),(376,Ns),(377,Nt),(378,Nu),(379,Nv),(380,Nw),(381,Nx),(422,Ny),(423,Nz),(341,NA),(387,NB),(405,NC),(404,ND),(418,NF),(198,Jr),(199,Jt),(200,Jv),(201,Jy),(202,JA),(401,NG),(402,NH),(259,NI),(403,NJ),(406,NK),(408,NL),(409,NM),(410,NN),(411,NO),(412,NP),(413,NQ),(414,NR),(431,NS),(432,NT),(433,NU),(434,NV),(435,NW),(436,NX),(382,NY),(383,NZ),(416,N0),(424,N1),(425,N2),(235,JZ),(236,J1),(237,J3),(238,J5),(280,N3),(426,N4),(427,N5),(428,N6),(439,N7),(440,N8),(441,N9),(415,Oa),(389,Ob),(351,Oc),(437,Od),(270,Ki),(271,Kk),(438,Oe),(369,Og),(336,Oi),(335,Oj),(282,Kr),(283,Kt),(284,Kv),(285,Kx)]
def Cx:List (Nat× (List V→Option fh)):=[(373,vh 4 2872193639704),(407,vh 1 8278675785407),(52,wq),(463,sh)]
def zI:List (Nat× (List V→Option (List (List V)))):=[]
def E:Env:=L2 Cw Cx [] zI
theorem Ol:E.fn 445=some Hr:=rfl
theorem Om (as:List V):E.ext 445 as=none:=rfl
theorem Oo:E.fn 311=some Ht:=rfl
theorem Oq (as:List V):E.ext 311 as=none:=rfl
theorem Vi:E.fn 77=some f77:=rfl
theorem Vj (as:List V):E.ext 77 as=none:=rfl
theorem nk:E.fn 79=some f79:=rfl
theorem np (as:List V):E.ext 79 as=none:=rfl
theorem Ot:E.fn 446=some Hx:=rfl
theorem Ou (as:List V):E.ext 446 as=none:=rfl
theorem Gs:E.fn 447=some Hz:=rfl
theorem Gt (as:List V):E.ext 447 as=none:=rfl
theorem Gu:E.fn 448=some HB:=rfl
theorem Gv (as:List V):E.ext 448 as=none:=rfl
theorem Vk:E.fn 83=some f83:=rfl
theorem Vl (as:List V):E.ext 83 as=none:=rfl
theorem Ov:E.fn 84=some f84:=rfl
theorem Ow (as:List V):E.ext 84 as=none:=rfl
theorem Vd:E.fn 85=some f85:=rfl
theorem Ve (as:List V):E.ext 85 as=none:=rfl
theorem Vm:E.fn 86=some f86:=rfl
theorem Vn (as:List V):E.ext 86 as=none:=rfl
theorem Vo:E.fn 87=some f87:=rfl
theorem Vp (as:List V):E.ext 87 as=none:=rfl
theorem Vq:E.fn 92=some f92:=rfl
theorem Vr (as:List V):E.ext 92 as=none:=rfl
theorem Vb:E.fn 93=some f93:=rfl
theorem Vc (as:List V):E.ext 93 as=none:=rfl
theorem yy:E.fn 94=some f94:=rfl
theorem yz (as:List V):E.ext 94 as=none:=rfl
theorem Vs:E.fn 95=some f95:=rfl
theorem Vt (as:List V):E.ext 95 as=none:=rfl
theorem Ox:E.fn 449=some HR:=rfl
theorem Oy (as:List V):E.ext 449 as=none:=rfl
theorem Oz:E.fn 450=some HT:=rfl
theorem OA (as:List V):E.ext 450 as=none:=rfl
theorem OB:E.fn 451=some HV:=rfl
theorem OC (as:List V):E.ext 451 as=none:=rfl
theorem OD:E.fn 452=some HX:=rfl
theorem OE (as:List V):E.ext 452 as=none:=rfl
theorem OF:E.fn 453=some HZ:=rfl
theorem OG (as:List V):E.ext 453 as=none:=rfl
theorem OH:E.fn 454=some H2:=rfl
theorem OI (as:List V):E.ext 454 as=none:=rfl
theorem OJ:E.fn 455=some H4:=rfl
theorem OK (as:List V):E.ext 455 as=none:=rfl
theorem OL:E.fn 456=some H6:=rfl
theorem OM (as:List V):E.ext 456 as=none:=rfl
theorem ON:E.fn 457=some H8:=rfl
theorem OO (as:List V):E.ext 457 as=none:=rfl
theorem OP:E.fn 458=some Ia:=rfl
theorem OQ (as:List V):E.ext 458 as=none:=rfl
theorem OR:E.fn 459=some Ic:=rfl
theorem OS (as:List V):E.ext 459 as=none:=rfl
theorem OT:E.fn 460=some Ig:=rfl
theorem OU (as:List V):E.ext 460 as=none:=rfl
theorem OV:E.fn 461=some Ii:=rfl
theorem OW (as:List V):E.ext 461 as=none:=rfl
theorem OX:E.fn 462=some Ik:=rfl
theorem OY (as:List V):E.ext 462 as=none:=rfl
theorem OZ:E.fn 113=some f113:=rfl
theorem O3 (as:List V):E.ext 113 as=none:=rfl
theorem O4:E.fn 114=some f114:=rfl
theorem O5 (as:List V):E.ext 114 as=none:=rfl
theorem O6:E.fn 115=some f115:=rfl
theorem O7 (as:List V):E.ext 115 as=none:=rfl
theorem O8:E.fn 116=some f116:=rfl
theorem O9 (as:List V):E.ext 116 as=none:=rfl
theorem Pa:E.fn 117=some f117:=rfl
theorem Pb (as:List V):E.ext 117 as=none:=rfl
theorem Pc:E.fn 118=some f118:=rfl
theorem Pd (as:List V):E.ext 118 as=none:=rfl
theorem Pe:E.fn 119=some f119:=rfl
theorem Pf (as:List V):E.ext 119 as=none:=rfl
theorem Pg:E.fn 120=some f120:=rfl
theorem Ph (as:List V):E.ext 120 as=none:=rfl
theorem Pj:E.fn 121=some f121:=rfl
theorem Pk (as:List V):E.ext 121 as=none:=rfl
theorem Pl:E.fn 122=some f122:=rfl
theorem Pm (as:List V):E.ext 122 as=none:=rfl
theorem Pn:E.fn 130=some f130:=rfl
theorem Po (as:List V):E.ext 130 as=none:=rfl
theorem Gw:E.fn 131=some f131:=rfl
theorem Gx (as:List V):E.ext 131 as=none:=rfl
theorem Pp:E.fn 27=some f27:=rfl
theorem Pq (as:List V):E.ext 27 as=none:=rfl
theorem Pr:E.fn 429=some IK:=rfl
theorem Ps (as:List V):E.ext 429 as=none:=rfl
theorem Pu:E.fn 430=some IM:=rfl
theorem Pv (as:List V):E.ext 430 as=none:=rfl
theorem Px (as:List V):E.ext 463 as=sh as:=rfl
theorem Py:E.fn 464=some IQ:=rfl
theorem Pz (as:List V):E.ext 464 as=none:=rfl
theorem PA:E.fn 161=some f161:=rfl
theorem PB (as:List V):E.ext 161 as=none:=rfl
theorem PC:E.fn 162=some f162:=rfl
theorem PD (as:List V):E.ext 162 as=none:=rfl
theorem PE:E.fn 163=some f163:=rfl
theorem PF (as:List V):E.ext 163 as=none:=rfl
theorem PG:E.fn 164=some f164:=rfl
theorem PH (as:List V):E.ext 164 as=none:=rfl
theorem Vu:E.fn 41=some f41:=rfl
theorem Vv (as:List V):E.ext 41 as=none:=rfl
theorem PI:E.fn 198=some Jr:=rfl
theorem PJ (as:List V):E.ext 198 as=none:=rfl
theorem PK:E.fn 199=some Jt:=rfl
theorem PL (as:List V):E.ext 199 as=none:=rfl
theorem PM:E.fn 200=some Jv:=rfl
theorem PN (as:List V):E.ext 200 as=none:=rfl
theorem PO:E.fn 201=some Jy:=rfl
theorem PQ (as:List V):E.ext 201 as=none:=rfl
theorem PR:E.fn 202=some JA:=rfl
theorem PS (as:List V):E.ext 202 as=none:=rfl
theorem PT:E.fn 235=some JZ:=rfl
theorem PU (as:List V):E.ext 235 as=none:=rfl
theorem PV:E.fn 236=some J1:=rfl
theorem PW (as:List V):E.ext 236 as=none:=rfl
theorem PX:E.fn 237=some J3:=rfl
theorem PY (as:List V):E.ext 237 as=none:=rfl
theorem PZ:E.fn 238=some J5:=rfl
theorem P0 (as:List V):E.ext 238 as=none:=rfl
theorem P1:E.fn 270=some Ki:=rfl
theorem P2 (as:List V):E.ext 270 as=none:=rfl
theorem P3:E.fn 271=some Kk:=rfl
theorem P4 (as:List V):E.ext 271 as=none:=rfl
theorem P5:E.fn 282=some Kr:=rfl
theorem P6 (as:List V):E.ext 282 as=none:=rfl
theorem P7:E.fn 283=some Kt:=rfl
theorem P8 (as:List V):E.ext 283 as=none:=rfl
theorem P9:E.fn 284=some Kv:=rfl
theorem Qa (as:List V):E.ext 284 as=none:=rfl
theorem Qb:E.fn 285=some Kx:=rfl
theorem Qc (as:List V):E.ext 285 as=none:=rfl
theorem Vx (as:List V):E.ext 52 as=wq as:=rfl
end Go.AM
