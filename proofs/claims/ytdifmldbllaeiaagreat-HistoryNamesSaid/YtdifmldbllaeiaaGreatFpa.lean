/- Texts of the proof. -/
import Derived.Test.YtdifmldbllaeiaaGreatFp
set_option linter.unusedSimpArgs false
set_option linter.unusedVariables false
set_option maxRecDepth 100000
namespace Go.AM
open Go.Proofs
def Kb:=aJ {lits:=[(6,[4,5,8,7]),(7,[4,5,8,7])]} Tryz.f3
def c96:=aJ {name:=[(21,65),(34,65),(47,65)],lits:=[(2,[1]),(7,[0,2,0,0,0,0,0,0])],qg:=[(3,65,1)],lh:=[(3,21,65),(3,34,65),(3,47,65)]} Tryz.f13
def afw:=aJ {c6:=[some 1,none]} Tryz.f32
def afA:=aJ {} Tryz.f37
def afB:=aJ {} Tryz.f57
def afE:=aJ {} Tryz.f60
def afI:=aJ {} Tryz.f64
def afJ:=aJ {NN:=[2]} Tryz.f74
def c23:=aJ {} Tryz.f79
def afO:=aJ {} Tryz.f82
def afR:=aJ {c6:=[none,some 4,none],lits:=[(7,[4,5,8,7])]} Tryz.f101
def abk:=aJ {c6:=[none,none,some 2],name:=[(71,129),(75,129)],lits:=[(6,[2])],lh:=[(7,14,129),(7,71,129)]} Tryz.f105
def c93:=aJ {} Tryz.f110
def afX:=aJ {c6:=[some 8,none,none,none,some 2],name:=[(84,195),(90,195),(122,17)],lits:=[(10,[8])]} Tryz.f111
def afY:=aJ {} Tryz.f115
def abp:=aJ {c6:=[some 1,none,none,none]} Tryz.f127
def aga:=aJ {name:=[(63,97),(76,161)],lits:=[(7,[0,2,0,0])],qg:=[(4,81,5),(5,97,5),(9,161,5)],lh:=[(5,63,97),(9,76,161)]} Tryz.f140
def agk:=aJ {lits:=[(6,[4,5,8,7])]} Tryz.f151
def c9:=aJ {name:=[(59,145),(82,97)],qg:=[(4,81,5),(5,97,5),(8,145,7)],lh:=[(8,59,145),(5,82,97)]} Tryz.f157
def agq:=aJ {lits:=[(4,[0,2,0,0]),(7,[0,2,0,0])]} Tryz.f168
def agw:=aJ {} Tryz.f181
def abu:=aJ {} Tryz.f183
def agy:=aJ {bG:=[12],lits:=[(4,[2])]} Tryz.f184
def abv:=aJ {} Tryz.f186
def c27:=aJ {} Tryz.f188
def agC:=aJ {} Tryz.f191
def agE:=aJ {NN:=[2]} Tryz.f193
def agH:=aJ {} Tryz.f200
def agK:=aJ {} Tryz.f203
def agP:=aJ {name:=[(21,97)],lits:=[(7,[0,2,0,0,0,0,0,0])],qg:=[(4,81,8),(5,97,8)],lh:=[(5,21,97)]} Tryz.f208
def c19:=aJ {} Tryz.f215
def c42:=aJ {c6:=[some 5,none,none,none]} Tryz.f220
def agT:=aJ {} Tryz.f235
def abB:=aJ {} Tryz.f236
def abJ:=aJ {} Tryz.f249
def abK:=aJ {} Tryz.f250
def ag1:=aJ {} Tryz.f255
def ag7:=aJ {} Tryz.f266
def abN:=aJ {} Tryz.f277
def abO:=aJ {} Tryz.f278
def abQ:=aJ {} Tryz.f280
def abS:=aJ {} Tryz.f282
def ahd:=aJ {c6:=[some 1],lits:=[(2,[1])]} Tryz.f299
def ahg:=aJ {lits:=[(4,[0,2,0,0,0,0,0,0])]} Tryz.f302
def abZ:=aJ {} Tryz.f320
def ab3:=aJ {} Tryz.f324
def ahm:=aJ {} Tryz.f338
def acb:=aJ {} Tryz.f346
def ahp:=aJ {} Tryz.f362
end Go.AM
