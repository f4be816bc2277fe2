/- Texts of the proof. -/
import Derived.Test.YtdifmldbllaeiaaGreatFp
set_option linter.unusedSimpArgs false
set_option linter.unusedVariables false
set_option maxRecDepth 100000
namespace Go.AM
open Go.Proofs
def abS:=aB {name:=[(17,49)],nX:=[(2,49,2)],jt:=[(2,17,49)]} Tryz.f10
def ab2:=aB {} Tryz.f27
def ab4:=aB {} Tryz.f29
def X7:=aB {cL:=[some 1]} Tryz.f31
def acj:=aB {} Tryz.f64
def c84:=aB {lits:=[(4,[1])]} Tryz.f66
def acn:=aB {cL:=[some 1,none,none,none,none]} Tryz.f78
def c23:=aB {} Tryz.f79
def acq:=aB {} Tryz.f82
def Ye:=aB {} Tryz.f87
def Yh:=aB {name:=[(43,113)],lits:=[(4,[1])],jt:=[(6,39,113)]} Tryz.f96
def Yj:=aB {cL:=[none,none,some 2],name:=[(71,129),(75,129)],lits:=[(6,[2])],jt:=[(7,14,129),(7,71,129)]} Tryz.f105
def c93:=aB {} Tryz.f110
def acA:=aB {} Tryz.f112
def acC:=aB {} Tryz.f115
def Ym:=aB {cL:=[some 1,none,none,none]} Tryz.f127
def acI:=aB {cL:=[some 1,none,none,none,none]} Tryz.f133
def acJ:=aB {cL:=[some 1,none,none,none,none]} Tryz.f134
def acP:=aB {} Tryz.f142
def Nl:=aB {bA:=[48],name:=[(26,113),(72,145)],nX:=[(4,81,5),(6,113,1),(8,145,5)],jt:=[(6,26,113),(11,50,193),(8,72,145)],keys:=[(19,[1,2,5,6],[48,96,113])]} Tryz.f145
def acU:=aB {} Tryz.f149
def ac2:=aB {lits:=[(4,[0,2,0,0]),(7,[0,2,0,0])]} Tryz.f168
def c54:=aB {} Tryz.f174
def c27:=aB {} Tryz.f188
def adi:=aB {Kv:=[2]} Tryz.f193
def c17:=aB {} Tryz.f195
def adl:=aB {} Tryz.f200
def adt:=aB {name:=[(21,97)],lits:=[(7,[0,2,0,0,0,0,0,0])],nX:=[(4,81,8),(5,97,8)],jt:=[(5,21,97)]} Tryz.f208
def c24:=aB {} Tryz.f212
def c16:=aB {bA:=[8,11,14,17],lits:=[(2,[4,5,8,7]),(18,[4,5,8,7]),(3,[4,5,8,7])]} Tryz.f213
def c19:=aB {} Tryz.f215
def Yu:=aB {} Tryz.f230
def ady:=aB {} Tryz.f237
def YB:=aB {} Tryz.f241
def adD:=aB {Kv:=[4]} Tryz.f252
def RE:=aB {} Tryz.f253
def Zc:=aB {name:=[(42,129)],lits:=[(6,[1]),(9,[0,2,0,0])],nX:=[(7,129,1)],jt:=[(7,42,129)]} Tryz.f260
def adL:=aB {} Tryz.f266
def YL:=aB {} Tryz.f279
def YP:=aB {} Tryz.f283
def adV:=aB {} Tryz.f316
def adX:=aB {} Tryz.f318
def YU:=aB {} Tryz.f320
def YW:=aB {} Tryz.f322
def YY:=aB {} Tryz.f324
def Y0:=aB {} Tryz.f335
def Y5:=aB {} Tryz.f345
def Y7:=aB {} Tryz.f347
def ad3:=aB {} Tryz.f356
end Go.AM
