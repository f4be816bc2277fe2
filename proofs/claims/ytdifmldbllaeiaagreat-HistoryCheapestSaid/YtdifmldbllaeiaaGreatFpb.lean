/- Texts of the proof. -/
import Derived.Test.YtdifmldbllaeiaaGreatFp
set_option linter.unusedSimpArgs false
set_option linter.unusedVariables false
set_option maxRecDepth 100000
namespace Go.AM
open Go.Proofs
def abO:=aB {lits:=[(4,[4,5,8,7]),(8,[4,5,8,7]),(13,[4,5,8,7])],jt:=[(5,21,97),(6,23,113)]} Tryz.f5
def abW:=aB {name:=[(38,52)],lits:=[(0,[4,5,8,7]),(11,[0,2,0,0]),(15,[4,5,0,7]),(2,[4,5,0,7]),(36,[0,2,0,0,0,0,0,0])],jt:=[(1,9,33)]} Tryz.f19
def abX:=aB {} Tryz.f21
def ab5:=aB {lits:=[(2,[3])]} Tryz.f30
def ab6:=aB {cL:=[some 1,none]} Tryz.f32
def aca:=aB {} Tryz.f37
def aci:=aB {} Tryz.f63
def c87:=aB {name:=[(86,113)],lits:=[(14,[1,0])],nX:=[(4,81,7),(6,113,7)],jt:=[(6,86,113)]} Tryz.f69
def acr:=aB {} Tryz.f83
def Yd:=aB {} Tryz.f84
def Yf:=aB {} Tryz.f90
def Yk:=aB {} Tryz.f106
def acx:=aB {cL:=[some 4,none,none,some 2],bA:=[95],lits:=[(8,[4])],jt:=[(10,50,177),(10,90,177)]} Tryz.f108
def acD:=aB {cL:=[some 1,none,none,none]} Tryz.f128
def acL:=aB {} Tryz.f137
def acM:=aB {} Tryz.f138
def acS:=aB {} Tryz.f147
def Yn:=aB {cL:=[some 5,none,none]} Tryz.f158
def ac0:=aB {lits:=[(4,[0,2,0,0,0,0,0,0]),(7,[0,2,0,0,0,0,0,0])]} Tryz.f166
def ac1:=aB {} Tryz.f167
def ac6:=aB {cL:=[none,none,some 1,none]} Tryz.f179
def ac8:=aB {} Tryz.f181
def ada:=aB {bA:=[12],lits:=[(4,[2])]} Tryz.f184
def ade:=aB {} Tryz.f189
def adf:=aB {cL:=[some 5,none]} Tryz.f190
def adg:=aB {} Tryz.f191
def adh:=aB {} Tryz.f192
def ado:=aB {} Tryz.f203
def ads:=aB {lits:=[(4,[0,2,0,0])]} Tryz.f207
def adv:=aB {lits:=[(4,[0,2,0,0,0,0,0,0])]} Tryz.f210
def c18:=aB {cL:=[some 7,none,none],lits:=[(6,[7])]} Tryz.f214
def c26:=aB {} Tryz.f219
def Yt:=aB {cL:=[some 5,none,none,none,none]} Tryz.f221
def Yx:=aB {} Tryz.f236
def YC:=aB {} Tryz.f242
def adz:=aB {cL:=[none,none,none,some 1,none]} Tryz.f244
def YD:=aB {} Tryz.f247
def YF:=aB {} Tryz.f249
def adJ:=aB {} Tryz.f264
def c35:=aB {} Tryz.f270
def YI:=aB {cL:=[some 5,none,none,none,none]} Tryz.f272
def YK:=aB {} Tryz.f278
def YM:=aB {} Tryz.f280
def adO:=aB {jt:=[(11,64,193),(12,67,209)]} Tryz.f285
def adQ:=aB {} Tryz.f288
def adU:=aB {lits:=[(4,[0,2,0,0,0,0,0,0])]} Tryz.f302
def YX:=aB {} Tryz.f323
def Y6:=aB {} Tryz.f346
def Y8:=aB {} Tryz.f357
end Go.AM
