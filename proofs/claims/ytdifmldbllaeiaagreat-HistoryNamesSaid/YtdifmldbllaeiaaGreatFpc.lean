/- Texts of the proof. -/
import Derived.Test.YtdifmldbllaeiaaGreatFp
set_option linter.unusedSimpArgs false
set_option linter.unusedVariables false
set_option maxRecDepth 100000
namespace Go.AM
open Go.Proofs
def afg:=aJ {lits:=[(2,[4,5,8,7])]} Tryz.f8
def afk:=aJ {lh:=[(8,12,145)]} Tryz.f14
def VD:=aJ {lits:=[(4,[0,5])]} Tryz.f20
def afq:=aJ {} Tryz.f24
def c77:=aJ {bG:=[13,67,72],lits:=[(2,[4,5,8,7]),(3,[4,5,8,7]),(20,[1,0])]} Tryz.f25
def afr:=aJ {bG:=[10,13,16,19],lits:=[(2,[4,5,8,7]),(20,[4,5,8,7]),(3,[4,5,8,7]),(5,[0,2,0,0]),(7,[0,2,0,0,0,0,0,0])]} Tryz.f26
def abd:=aJ {lits:=[(2,[8,0]),(5,[8,0])]} Tryz.f49
def abe:=aJ {lits:=[(2,[7,0]),(5,[7,0])]} Tryz.f51
def afG:=aJ {} Tryz.f62
def c85:=aJ {c6:=[some 2,none]} Tryz.f67
def abi:=aJ {} Tryz.f93
def afW:=aJ {name:=[(52,97)],lits:=[(3,[1])],qg:=[(2,49,5),(5,97,5)],lh:=[(3,25,65),(3,38,65),(5,52,97)]} Tryz.f109
def abo:=aJ {} Tryz.f114
def c50:=aJ {} Tryz.f125
def af9:=aJ {bG:=[31,34,37,40],lits:=[(6,[4,5,8,7]),(20,[4,5,8,7]),(41,[4,5,8,7]),(11,[4,5,8,7])]} Tryz.f139
def agb:=aJ {} Tryz.f141
def agh:=aJ {name:=[(44,145)],lits:=[(6,[0,2,0,0,0,0,0,0]),(11,[0,2,0,0,0,0,0,0]),(14,[0,2,0,0,0,0,0,0])],qg:=[(8,145,8)],lh:=[(8,44,145)],cn:=[72,74]} Tryz.f148
def abq:=aJ {c6:=[some 5,none,none]} Tryz.f158
def abt:=aJ {} Tryz.f171
def c55:=aJ {c6:=[some 1]} Tryz.f175
def agx:=aJ {} Tryz.f182
def agz:=aJ {} Tryz.f185
def agD:=aJ {} Tryz.f192
def abw:=aJ {c6:=[some 1,none],lits:=[(4,[1])]} Tryz.f196
def acg:=aJ {lits:=[(7,[0,2,0,0])]} Tryz.f199
def agI:=aJ {} Tryz.f201
def agL:=aJ {} Tryz.f204
def agN:=aJ {name:=[(21,97)],lits:=[(7,[0,2,0,0])],qg:=[(4,81,4),(5,97,4)],lh:=[(5,21,97)]} Tryz.f206
def agR:=aJ {lits:=[(4,[0,2,0,0,0,0,0,0])]} Tryz.f210
def abx:=aJ {c6:=[some 5,none,none,none,none]} Tryz.f221
def c33:=aJ {} Tryz.f234
def abD:=aJ {} Tryz.f239
def agX:=aJ {} Tryz.f246
def agY:=aJ {c6:=[some 2,none,none],lits:=[(6,[2])]} Tryz.f251
def ag0:=aJ {} Tryz.f254
def ag2:=aJ {} Tryz.f256
def ag6:=aJ {} Tryz.f265
def c34:=aJ {} Tryz.f269
def ahb:=aJ {lh:=[(9,43,161)]} Tryz.f287
def ahc:=aJ {} Tryz.f288
def abU:=aJ {} Tryz.f289
def ahf:=aJ {} Tryz.f301
def ahh:=aJ {} Tryz.f317
def abY:=aJ {} Tryz.f319
def ab0:=aJ {c6:=[some 2,none]} Tryz.f321
def ahj:=aJ {} Tryz.f325
def ahl:=aJ {} Tryz.f327
def ab4:=aJ {} Tryz.f334
def aca:=aJ {} Tryz.f345
end Go.AM
