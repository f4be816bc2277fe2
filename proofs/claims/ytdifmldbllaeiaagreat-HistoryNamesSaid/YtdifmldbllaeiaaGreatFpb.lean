/- Texts of the proof. -/
import Derived.Test.YtdifmldbllaeiaaGreatFp
set_option linter.unusedSimpArgs false
set_option linter.unusedVariables false
set_option maxRecDepth 100000
namespace Go.AM
open Go.Proofs
def afm:=aJ {name:=[(38,52)],lits:=[(0,[4,5,8,7]),(11,[0,2,0,0]),(15,[4,5,0,7]),(2,[4,5,0,7]),(36,[0,2,0,0,0,0,0,0])],lh:=[(1,9,33)]} Tryz.f19
def afp:=aJ {} Tryz.f23
def afx:=aJ {} Tryz.f33
def abb:=aJ {lits:=[(2,[4,0]),(5,[4,0])]} Tryz.f45
def afF:=aJ {} Tryz.f61
def c83:=aJ {bG:=[143,180,204,207],lits:=[(2,[4]),(3,[5]),(4,[1]),(5,[1]),(6,[1]),(40,[1,0]),(105,[1,0])],qg:=[(14,241,4)],lh:=[(14,143,241),(14,180,241),(14,204,241)]} Tryz.f65
def c86:=aJ {bG:=[31,50,61,69],lits:=[(2,[8]),(9,[1,0])],qg:=[(4,81,8)],lh:=[(4,31,81),(4,50,81),(4,61,81),(4,69,81)]} Tryz.f68
def c87:=aJ {name:=[(86,113)],lits:=[(14,[1,0])],qg:=[(4,81,7),(6,113,7)],lh:=[(6,86,113)]} Tryz.f69
def afL:=aJ {c6:=[some 1,none,none,none,none]} Tryz.f78
def afN:=aJ {c6:=[some 5,none]} Tryz.f81
def afQ:=aJ {name:=[(43,113)],lits:=[(4,[1])],lh:=[(6,39,113)]} Tryz.f96
def abj:=aJ {c6:=[some 4,none,none,none,some 2],name:=[(31,17)],lits:=[(22,[0,2,0,0]),(11,[0,2,0,0])],qg:=[(10,177,4)]} Tryz.f104
def afU:=aJ {} Tryz.f107
def afV:=aJ {c6:=[some 4,none,none,some 2],bG:=[95],lits:=[(8,[4])],lh:=[(10,50,177),(10,90,177)]} Tryz.f108
def abn:=aJ {} Tryz.f113
def af1:=aJ {} Tryz.f130
def c36:=aJ {} Tryz.f135
def af6:=aJ {} Tryz.f136
def af7:=aJ {} Tryz.f137
def age:=aJ {} Tryz.f146
def agj:=aJ {} Tryz.f150
def agm:=aJ {name:=[(44,81)],lits:=[(6,[0,2,0,0,0,0,0,0])],qg:=[(4,81,5)],lh:=[(4,44,81)]} Tryz.f153
def c12:=aJ {} Tryz.f155
def c22:=aJ {} Tryz.f159
def agn:=aJ {} Tryz.f165
def abr:=aJ {name:=[(28,67)],lits:=[(2,[0,2,0,0]),(30,[0,2,0,0])]} Tryz.f169
def ags:=aJ {name:=[(51,99),(56,65)],qg:=[(2,49,4),(3,65,4)],lh:=[(3,56,65)]} Tryz.f172
def agv:=aJ {c6:=[none,none,none,none,some 1,none]} Tryz.f180
def c37:=aJ {} Tryz.f187
def agG:=aJ {} Tryz.f198
def agJ:=aJ {} Tryz.f202
def c20:=aJ {} Tryz.f216
def c25:=aJ {c6:=[some 5,none]} Tryz.f218
def abz:=aJ {} Tryz.f231
def abA:=aJ {} Tryz.f232
def abC:=aJ {} Tryz.f238
def agW:=aJ {} Tryz.f245
def c41:=aJ {} Tryz.f257
def ag3:=aJ {} Tryz.f258
def ach:=aJ {name:=[(42,129)],lits:=[(6,[1]),(9,[0,2,0,0])],qg:=[(7,129,1)],lh:=[(7,42,129)]} Tryz.f260
def c38:=aJ {} Tryz.f262
def ag4:=aJ {} Tryz.f263
def ag8:=aJ {lh:=[(4,11,81)],NN:=[2]} Tryz.f267
def aha:=aJ {lh:=[(11,64,193),(12,67,209)]} Tryz.f285
def abW:=aJ {} Tryz.f315
def ahk:=aJ {} Tryz.f326
def ab7:=aJ {} Tryz.f337
def ab8:=aJ {} Tryz.f339
def ahn:=aJ {} Tryz.f340
def aho:=aJ {} Tryz.f356
end Go.AM
