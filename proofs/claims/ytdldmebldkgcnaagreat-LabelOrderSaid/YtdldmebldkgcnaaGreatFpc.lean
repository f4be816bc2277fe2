/- Texts of the proof. -/
import Derived.Test.YtdldmebldkgcnaaGreatFp
set_option linter.unusedSimpArgs false
set_option linter.unusedVariables false
set_option maxRecDepth 100000
namespace Go.AM
open Go.Proofs
def Ym:=aF {lits:=[(8,[4,5,8,7])],ig:=[(9,22,161),(12,36,209),(13,39,225)]} Tryz.f4
def aeM:=aF {} Tryz.f18
def aeS:=aF {} Tryz.f28
def aeV:=aF {} Tryz.f31
def ae1:=aF {} Tryz.f44
def aaS:=aF {cu:=[some 1],lits:=[(2,[1])]} Tryz.f46
def ae7:=aF {} Tryz.f58
def c93:=aF {} Tryz.f62
def aaY:=aF {cu:=[some 8,none,none,none,some 2],name:=[(84,195),(90,195),(122,17)],lits:=[(10,[8])]} Tryz.f63
def aa0:=aF {} Tryz.f65
def aa3:=aF {} Tryz.f77
def afd:=aF {} Tryz.f78
def afe:=aF {} Tryz.f79
def aa7:=aF {} Tryz.f84
def c51:=aF {} Tryz.f99
def afh:=aF {name:=[(20,97)],mP:=[(4,81,5),(5,97,5)],ig:=[(5,20,97)]} Tryz.f100
def aa9:=aF {} Tryz.f103
def aba:=aF {} Tryz.f104
def abd:=aF {} Tryz.f107
def afk:=aF {cu:=[some 7,none,none,none,none]} Tryz.f111
def afm:=aF {cu:=[some 5,none]} Tryz.f118
def afp:=aF {} Tryz.f121
def afw:=aF {bB:=[31,34,37,40],lits:=[(6,[4,5,8,7]),(20,[4,5,8,7]),(41,[4,5,8,7]),(11,[4,5,8,7])]} Tryz.f131
def abI:=aF {name:=[(63,97),(76,161)],lits:=[(7,[0,2,0,0])],mP:=[(4,81,5),(5,97,5),(9,161,5)],ig:=[(5,63,97),(9,76,161)]} Tryz.f132
def afy:=aF {} Tryz.f134
def afF:=aF {lits:=[(6,[4,5,8,7])]} Tryz.f143
def afG:=aF {lits:=[(4,[4,5,8,7]),(12,[4,5,8,7]),(30,[4,5,8,7])]} Tryz.f144
def afH:=aF {name:=[(44,81)],lits:=[(6,[0,2,0,0,0,0,0,0])],mP:=[(4,81,5)],ig:=[(4,44,81)]} Tryz.f145
def abj:=aF {cu:=[some 5,none,none]} Tryz.f150
def abm:=aF {} Tryz.f158
def afQ:=aF {} Tryz.f166
def afX:=aF {} Tryz.f177
def c19:=aF {} Tryz.f189
def c21:=aF {} Tryz.f191
def c42:=aF {cu:=[some 5,none,none,none]} Tryz.f194
def abo:=aF {cu:=[some 5,none,none,none,none]} Tryz.f195
def abt:=aF {QA:=[2]} Tryz.f204
def age:=aF {} Tryz.f212
def abK:=aF {name:=[(42,129)],lits:=[(6,[1]),(9,[0,2,0,0])],mP:=[(7,129,1)],ig:=[(7,42,129)]} Tryz.f216
def abx:=aF {} Tryz.f217
def agn:=aF {cu:=[some 8,none,none],lits:=[(6,[8])]} Tryz.f224
def c35:=aF {} Tryz.f226
def abA:=aF {} Tryz.f230
def agp:=aF {} Tryz.f235
def abD:=aF {cu:=[some 5,none,none,none,none]} Tryz.f257
def agy:=aF {} Tryz.f262
def agD:=aF {} Tryz.f272
def agH:=aF {} Tryz.f281
def agM:=aF {cu:=[some 1,none,none,none]} Tryz.f296
end Go.AM
