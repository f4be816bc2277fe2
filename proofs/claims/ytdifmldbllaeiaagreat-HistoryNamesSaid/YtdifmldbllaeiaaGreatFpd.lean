/- Texts of the proof. -/
import Derived.Test.YtdifmldbllaeiaaGreatFp
set_option linter.unusedSimpArgs false
set_option linter.unusedVariables false
set_option maxRecDepth 100000
namespace Go.AM
open Go.Proofs
def afo:=aJ {lits:=[(8,[4,5,8,7])]} Tryz.f22
def aft:=aJ {} Tryz.f28
def afy:=aJ {name:=[(20,97)],qg:=[(4,81,5),(5,97,5)],lh:=[(5,20,97)]} Tryz.f35
def abc:=aJ {lits:=[(2,[5,0]),(5,[5,0])]} Tryz.f47
def afC:=aJ {} Tryz.f58
def afD:=aJ {} Tryz.f59
def c40:=aJ {} Tryz.f77
def afM:=aJ {lits:=[(0,[6])]} Tryz.f80
def abf:=aJ {} Tryz.f84
def abh:=aJ {} Tryz.f90
def afT:=aJ {} Tryz.f103
def abl:=aJ {} Tryz.f106
def c51:=aJ {} Tryz.f126
def afZ:=aJ {c6:=[some 1,none,none,none]} Tryz.f128
def af0:=aJ {c6:=[some 1,none,none,none]} Tryz.f129
def af2:=aJ {c6:=[some 1,none,none,none]} Tryz.f131
def af3:=aJ {c6:=[some 1,none,none,none]} Tryz.f132
def af4:=aJ {c6:=[some 1,none,none,none,none]} Tryz.f133
def af5:=aJ {c6:=[some 1,none,none,none,none]} Tryz.f134
def agd:=aJ {} Tryz.f143
def QN:=aJ {bG:=[48],name:=[(26,113),(72,145)],qg:=[(4,81,5),(6,113,1),(8,145,5)],lh:=[(6,26,113),(11,50,193),(8,72,145)],keys:=[(19,[1,2,5,6],[48,96,113])]} Tryz.f145
def agi:=aJ {} Tryz.f149
def c7:=aJ {bG:=[31,71],lits:=[(6,[4,5,8,7]),(20,[4,5,8,7]),(12,[4,5,8,7])]} Tryz.f156
def agr:=aJ {} Tryz.f170
def c54:=aJ {} Tryz.f174
def agt:=aJ {c6:=[some 1,none,none,none,none]} Tryz.f178
def agu:=aJ {c6:=[none,none,some 1,none]} Tryz.f179
def agB:=aJ {c6:=[some 5,none]} Tryz.f190
def agF:=aJ {} Tryz.f194
def agM:=aJ {} Tryz.f205
def agO:=aJ {lits:=[(4,[0,2,0,0])]} Tryz.f207
def agQ:=aJ {bG:=[6],lits:=[(4,[8])]} Tryz.f209
def c15:=aJ {} Tryz.f211
def c21:=aJ {} Tryz.f217
def agS:=aJ {} Tryz.f233
def agZ:=aJ {NN:=[4]} Tryz.f252
def Vw:=aJ {} Tryz.f253
def abL:=aJ {} Tryz.f261
def ag9:=aJ {c6:=[some 8,none,none],lits:=[(6,[8])]} Tryz.f268
def c35:=aJ {} Tryz.f270
def abR:=aJ {} Tryz.f281
def ahe:=aJ {} Tryz.f300
def abV:=aJ {c6:=[some 5,none,none,none,none]} Tryz.f310
def abX:=aJ {} Tryz.f316
def ahi:=aJ {} Tryz.f318
def ab2:=aJ {} Tryz.f323
def ab9:=aJ {} Tryz.f341
def ace:=aJ {} Tryz.f357
def acf:=aJ {} Tryz.f358
end Go.AM
