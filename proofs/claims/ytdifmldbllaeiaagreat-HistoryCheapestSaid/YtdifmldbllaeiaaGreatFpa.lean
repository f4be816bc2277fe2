/- Texts of the proof. -/
import Derived.Test.YtdifmldbllaeiaaGreatFp
set_option linter.unusedSimpArgs false
set_option linter.unusedVariables false
set_option maxRecDepth 100000
namespace Go.AM
open Go.Proofs
def c96:=aB {name:=[(21,65),(34,65),(47,65)],lits:=[(2,[1]),(7,[0,2,0,0,0,0,0,0])],nX:=[(3,65,1)],jt:=[(3,21,65),(3,34,65),(3,47,65)]} Tryz.f13
def RF:=aB {lits:=[(4,[0,5])]} Tryz.f20
def abY:=aB {lits:=[(8,[4,5,8,7])]} Tryz.f22
def abZ:=aB {} Tryz.f23
def ab0:=aB {} Tryz.f24
def X9:=aB {lits:=[(2,[4,0]),(5,[4,0])]} Tryz.f45
def acd:=aB {} Tryz.f58
def ach:=aB {} Tryz.f62
def Xl:=aB {bA:=[143,180,204,207],lits:=[(2,[4]),(3,[5]),(4,[1]),(5,[1]),(6,[1]),(40,[1,0]),(105,[1,0])],nX:=[(14,241,4)],jt:=[(14,143,241),(14,180,241),(14,204,241)]} Tryz.f65
def acp:=aB {cL:=[some 5,none]} Tryz.f81
def acz:=aB {cL:=[some 8,none,none,none,some 2],name:=[(84,195),(90,195),(122,17)],lits:=[(10,[8])]} Tryz.f111
def Yl:=aB {} Tryz.f113
def acB:=aB {} Tryz.f114
def c50:=aB {} Tryz.f125
def acG:=aB {cL:=[some 1,none,none,none]} Tryz.f131
def c36:=aB {} Tryz.f135
def acK:=aB {} Tryz.f136
def Za:=aB {name:=[(63,97),(76,161)],lits:=[(7,[0,2,0,0])],nX:=[(4,81,5),(5,97,5),(9,161,5)],jt:=[(5,63,97),(9,76,161)]} Tryz.f140
def acR:=aB {} Tryz.f146
def acV:=aB {} Tryz.f150
def acY:=aB {name:=[(44,81)],lits:=[(6,[0,2,0,0,0,0,0,0])],nX:=[(4,81,5)],jt:=[(4,44,81)]} Tryz.f153
def c9:=aB {name:=[(59,145),(82,97)],nX:=[(4,81,5),(5,97,5),(8,145,7)],jt:=[(8,59,145),(5,82,97)]} Tryz.f157
def ac5:=aB {cL:=[some 1,none,none,none,none]} Tryz.f178
def ac9:=aB {} Tryz.f182
def Yq:=aB {} Tryz.f183
def adb:=aB {} Tryz.f185
def Yr:=aB {} Tryz.f186
def Ys:=aB {cL:=[some 1,none],lits:=[(4,[1])]} Tryz.f196
def adk:=aB {} Tryz.f198
def Zb:=aB {lits:=[(7,[0,2,0,0])]} Tryz.f199
def adm:=aB {} Tryz.f201
def adn:=aB {} Tryz.f202
def adr:=aB {name:=[(21,97)],lits:=[(7,[0,2,0,0])],nX:=[(4,81,4),(5,97,4)],jt:=[(5,21,97)]} Tryz.f206
def c25:=aB {cL:=[some 5,none]} Tryz.f218
def Yv:=aB {} Tryz.f231
def c33:=aB {} Tryz.f234
def YG:=aB {} Tryz.f250
def adG:=aB {} Tryz.f256
def c41:=aB {} Tryz.f257
def adH:=aB {} Tryz.f258
def adI:=aB {} Tryz.f263
def adN:=aB {cL:=[some 8,none,none],lits:=[(6,[8])]} Tryz.f268
def YJ:=aB {} Tryz.f277
def adP:=aB {jt:=[(9,43,161)]} Tryz.f287
def adT:=aB {} Tryz.f301
def YR:=aB {cL:=[some 5,none,none,none,none]} Tryz.f310
def adW:=aB {} Tryz.f317
def ad0:=aB {} Tryz.f327
def Y2:=aB {} Tryz.f337
def ad2:=aB {} Tryz.f340
end Go.AM
