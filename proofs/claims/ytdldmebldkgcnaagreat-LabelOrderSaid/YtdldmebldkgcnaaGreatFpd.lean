/- Texts of the proof. -/
import Derived.Test.YtdldmebldkgcnaaGreatFp
set_option linter.unusedSimpArgs false
set_option linter.unusedVariables false
set_option maxRecDepth 100000
namespace Go.AM
open Go.Proofs
def aeA:=aF {lits:=[(6,[4,5,8,7]),(9,[4,5,8,7])],ig:=[(7,21,129),(10,44,177),(11,47,193),(12,49,209)]} Tryz.f6
def aeE:=aF {name:=[(17,49)],mP:=[(2,49,2)],ig:=[(2,17,49)]} Tryz.f10
def aeF:=aF {name:=[(29,81)],mP:=[(4,81,1)],ig:=[(4,29,81)]} Tryz.f11
def aeK:=aF {} Tryz.f16
def c77:=aF {bB:=[13,67,72],lits:=[(2,[4,5,8,7]),(3,[4,5,8,7]),(20,[1,0])]} Tryz.f21
def aeQ:=aF {} Tryz.f23
def c96:=aF {name:=[(21,65),(34,65),(47,65)],lits:=[(2,[1]),(7,[0,2,0,0,0,0,0,0])],mP:=[(3,65,1)],ig:=[(3,21,65),(3,34,65),(3,47,65)]} Tryz.f26
def Yo:=aF {lits:=[(4,[0,5])]} Tryz.f27
def aeT:=aF {} Tryz.f29
def aeW:=aF {} Tryz.f32
def c85:=aF {cu:=[some 2,none]} Tryz.f37
def c87:=aF {name:=[(86,113)],lits:=[(14,[1,0])],mP:=[(4,81,7),(6,113,7)],ig:=[(6,86,113)]} Tryz.f39
def ae2:=aF {} Tryz.f47
def c38:=aF {} Tryz.f52
def ae6:=aF {} Tryz.f54
def c41:=aF {} Tryz.f55
def aaU:=aF {cu:=[some 4,none,none,none,some 2],name:=[(31,17)],lits:=[(22,[0,2,0,0]),(11,[0,2,0,0])],mP:=[(10,177,4)]} Tryz.f56
def ae8:=aF {} Tryz.f59
def aaX:=aF {name:=[(52,97)],lits:=[(3,[1])],mP:=[(2,49,5),(5,97,5)],ig:=[(3,25,65),(3,38,65),(5,52,97)]} Tryz.f61
def c33:=aF {} Tryz.f67
def c40:=aF {} Tryz.f72
def aa2:=aF {} Tryz.f76
def aa6:=aF {name:=[(43,113)],lits:=[(4,[1])],ig:=[(6,39,113)]} Tryz.f83
def c50:=aF {} Tryz.f98
def abe:=aF {} Tryz.f108
def afq:=aF {} Tryz.f124
def afr:=aF {} Tryz.f125
def Yr:=aF {bB:=[48],name:=[(26,113),(72,145)],mP:=[(4,81,5),(6,113,1),(8,145,5)],ig:=[(6,26,113),(11,50,193),(8,72,145)],keys:=[(19,[1,2,5,6],[48,96,113])]} Tryz.f137
def afD:=aF {} Tryz.f141
def c7:=aF {bB:=[31,71],lits:=[(6,[4,5,8,7]),(20,[4,5,8,7]),(12,[4,5,8,7])]} Tryz.f148
def afL:=aF {bB:=[12],lits:=[(4,[2])]} Tryz.f156
def afS:=aF {} Tryz.f168
def afV:=aF {} Tryz.f175
def afW:=aF {} Tryz.f176
def afY:=aF {} Tryz.f178
def af3:=aF {bB:=[6],lits:=[(4,[8])]} Tryz.f183
def af4:=aF {lits:=[(4,[0,2,0,0,0,0,0,0])]} Tryz.f184
def af7:=aF {} Tryz.f199
def af9:=aF {} Tryz.f202
def agh:=aF {} Tryz.f218
def agt:=aF {lits:=[(4,[0,2,0,0,0,0,0,0])]} Tryz.f248
def abE:=aF {} Tryz.f258
def agv:=aF {} Tryz.f259
def agw:=aF {} Tryz.f260
def agG:=aF {} Tryz.f278
def abH:=aF {cu:=[some 1,none,none,none]} Tryz.f292
def agN:=aF {cu:=[some 1,none,none,none]} Tryz.f297
def agP:=aF {cu:=[some 1,none,none,none,none]} Tryz.f299
def agR:=aF {cu:=[none,none,some 1,none]} Tryz.f304
end Go.AM
