/- Texts of the proof. -/
import Derived.Test.YtgjbecccmiehkaaGreatTa
import Derived.Test.YtgjbecccmiehkaaGreatTb
import Derived.Test.YtgjbecccmiehkaaGreatTc
import Derived.Test.YtgjbecccmiehkaaGreatTd
set_option linter.unusedSimpArgs false
set_option linter.unusedVariables false
set_option maxRecDepth 100000
namespace Go.AM
abbrev sE:List V:=[.agg [vi 11,.lit 2 [.agg [vi 0,vi 0],.agg [vi 40,vi 0],.agg [vi 40,vi 40],.agg [vi 20,vi 40]],vi 2,vi 0],.agg [vi 12,.lit 2 [.agg [vi 20,vi 40],.agg [vi 0,vi 40],.agg [vi 0,vi 0]],vi 1,vi 0],.agg [vi 13,.lit 2 [.agg [vi 0,vi 0],.agg [vi 10,vi 12],.agg [vi 20,vi 14],.agg [vi 20,vi 40]],vi 1,vi 2]]
abbrev sX:List V:=[.agg [vi 11,.lit 2 [.agg [vi 0,vi 0],.agg [vi 40,vi 0],.agg [vi 40,vi 40],.agg [vi 20,vi 40]],vi 2,vi 0],.agg [vi 12,.lit 2 [.agg [vi 20,vi 40],.agg [vi 0,vi 40],.agg [vi 0,vi 0]],vi 1,vi 0],.agg [vi 13,.lit 2 [.agg [vi 0,vi 0],.agg [vi 20,vi 14],.agg [vi 20,vi 40]],vi 1,vi 2]]
abbrev sF:List V:=[.agg [vi 1,.str [97],.str [],vi 1,vi 1],.agg [vi 2,.str [97],.str [],vi 1,vi 1]]
abbrev sP:List V:=[.agg [vi 21,vi 19,vi 20,.str [97],.str [],vi 1,vi 1]]
abbrev sM:V:= .agg [.lit 4 sE,.lit 5 sF,.lit 8 [],.lit 7 sP]
def yI:za:=[(553,[.agg [vi 0,vi 0],.agg [vi 10,vi 12],.agg [vi 20,vi 14],.agg [vi 0,vi 0],.agg [vi 40,vi 0]],⟨.bool false,[]⟩),
 (553,[.agg [vi 0,vi 0],.agg [vi 10,vi 12],.agg [vi 20,vi 14],.agg [vi 40,vi 0],.agg [vi 40,vi 40]],⟨.bool false,[]⟩),
 (553,[.agg [vi 0,vi 0],.agg [vi 10,vi 12],.agg [vi 20,vi 14],.agg [vi 40,vi 40],.agg [vi 20,vi 40]],⟨.bool false,[]⟩),
 (553,[.agg [vi 0,vi 0],.agg [vi 10,vi 12],.agg [vi 20,vi 14],.agg [vi 20,vi 40],.agg [vi 0,vi 40]],⟨.bool false,[]⟩),
 (553,[.agg [vi 0,vi 0],.agg [vi 10,vi 12],.agg [vi 20,vi 14],.agg [vi 0,vi 40],.agg [vi 0,vi 0]],⟨.bool false,[]⟩),
 (553,[.agg [vi 0,vi 0],.agg [vi 10,vi 12],.agg [vi 20,vi 14],.agg [vi 20,vi 14],.agg [vi 20,vi 40]],⟨.bool false,[]⟩),
 (553,[.agg [vi 10,vi 12],.agg [vi 20,vi 14],.agg [vi 20,vi 40],.agg [vi 0,vi 0],.agg [vi 40,vi 0]],⟨.bool false,[]⟩),
 (553,[.agg [vi 10,vi 12],.agg [vi 20,vi 14],.agg [vi 20,vi 40],.agg [vi 40,vi 0],.agg [vi 40,vi 40]],⟨.bool false,[]⟩),
 (553,[.agg [vi 10,vi 12],.agg [vi 20,vi 14],.agg [vi 20,vi 40],.agg [vi 40,vi 40],.agg [vi 20,vi 40]],⟨.bool false,[]⟩),
 (553,[.agg [vi 10,vi 12],.agg [vi 20,vi 14],.agg [vi 20,vi 40],.agg [vi 20,vi 40],.agg [vi 0,vi 40]],⟨.bool false,[]⟩),
 (553,[.agg [vi 10,vi 12],.agg [vi 20,vi 14],.agg [vi 20,vi 40],.agg [vi 0,vi 40],.agg [vi 0,vi 0]],⟨.bool false,[]⟩),
 (553,[.agg [vi 10,vi 12],.agg [vi 20,vi 14],.agg [vi 20,vi 40],.agg [vi 0,vi 0],.agg [vi 10,vi 12]],⟨.bool false,[]⟩)]
theorem AW: ∀p ∈ yI,Ev E p.1 p.2.1 p.2.2:=ZN.2 ⟨MQ,ZN.2 ⟨MR,ZN.2 ⟨MS,ZN.2 ⟨MT,ZN.2 ⟨MU,ZN.2 ⟨MV,ZN.2 ⟨MW,ZN.2 ⟨MX,ZN.2 ⟨MY,ZN.2 ⟨MZ,ZN.2 ⟨J7,ZN.2 ⟨J8,Zm⟩⟩⟩⟩⟩⟩⟩⟩⟩⟩⟩⟩
theorem M0:Ev E 532 [] ⟨.agg [.own 4 sE,.own 5 sF,.lit 8 [],.own 7 sP],[]⟩:=⟨1000,Zo⟩
theorem Ii:zc E yI 1000 526 [sM,vi 13,vi 1]=some ⟨vi 0,[]⟩:=Zo
theorem Ij:Ev E 526 [sM,vi 13,vi 1] ⟨vi 0,[]⟩:=Ev.IW AW Ii
theorem Ik:zc E yI 1000 526 [sM,vi 13,vi 2]=some ⟨vi 22,[]⟩:=Zo
theorem Il:Ev E 526 [sM,vi 13,vi 2] ⟨vi 22,[]⟩:=Ev.IW AW Ik
def vk:za:=[(526,[sM,vi 13,vi 1],⟨vi 0,[]⟩),(526,[sM,vi 13,vi 2],⟨vi 22,[]⟩)]
theorem xd: ∀p ∈ vk,Ev E p.1 p.2.1 p.2.2:=ZN.2 ⟨Ij,ZN.2 ⟨Il,Zm⟩⟩
theorem M1:Ev E 526 [sM,vi 13,vi 3] ⟨vi 1,[]⟩:=⟨1000,Zo⟩
theorem M3:Ev E 526 [sM,vi 11,vi 1] ⟨vi 25,[]⟩:=⟨1000,Zo⟩
theorem M4:Ev E 526 [sM,vi 14,vi 1] ⟨vi 5,[]⟩:=⟨1000,Zo⟩
theorem Im:zc E vk 1000 524 [sM,vi 13,vi 1]=some ⟨.tuple [.agg [.own 4 sX,.own 5 sF,.own 8 [],.own 7 sP],vi 0],[]⟩:=Zo
theorem M5:Ev E 524 [sM,vi 13,vi 1] ⟨.tuple [.agg [.own 4 sX,.own 5 sF,.own 8 [],.own 7 sP],vi 0],[]⟩:=Ev.IW xd Im
theorem Io:zc E vk 1000 529 [sM,vi 1]=some ⟨.own 5 [.agg [vi 1,vi 10,vi 13,vi 0,vi 1]],[]⟩:=Zo
theorem M6:Ev E 529 [sM,vi 1] ⟨.own 5 [.agg [vi 1,vi 10,vi 13,vi 0,vi 1]],[]⟩:=Ev.IW xd Io
theorem M7:Ev E 527 [sM,vi 13,vi 1] ⟨vi 10,[]⟩:=⟨1000,Zo⟩
theorem M8:Ev E 527 [sM,vi 13,vi 0] ⟨vi 0,[]⟩:=⟨1000,Zo⟩
theorem M9:Ev E 529 [sM,vi 0] ⟨.own 5 [],[]⟩:=⟨1000,Zo⟩
theorem Na:Ev E 533 [.lit 1 [vi 0,vi 0,vi 20,vi 14,vi 20,vi 40]] ⟨.own 2 [.agg [vi 0,vi 0],.agg [vi 20,vi 14],.agg [vi 20,vi 40]],[]⟩:=⟨1000,Zo⟩
theorem Nb:Ev E 165 [.lit 2 [.agg [vi 0,vi 0],.agg [vi 20,vi 14],.agg [vi 20,vi 40]],.lit 2 [.agg [vi 0,vi 0],.agg [vi 20,vi 14],.agg [vi 20,vi 40]]] ⟨.bool true,[]⟩:=⟨1000,Zo⟩
theorem Ib:Ev E 521 [] ⟨.bool true,[]⟩:=by
 refine Ev.aO rfl rfl rfl ?_
 conv=>whnf
 repeat' (first| intro g| apply ca M0| apply ca Ij| apply ca Il| apply ca M1| apply ca M3| apply ca M4| apply ca M5| apply ca M6| apply ca M7| apply ca M8| apply ca M9| apply ca Na| apply ca Nb| refine st ?_| refine br ?_ ?_<;>intro hc| rfl) <;>conv=>whnf
end Go.AM
