/- Texts of the proof. -/
import Derived.Test.YtdifmldbllaeiaaGreatFp
set_option linter.unusedSimpArgs false
set_option linter.unusedVariables false
set_option maxRecDepth 100000
namespace Go.AM
open Go.Proofs
def abQ:=aB {lits:=[(2,[4,5,8,7])]} Tryz.f8
def abT:=aB {name:=[(61,49),(82,49)],lits:=[(7,[0,2,0,0,0,0,0,0]),(11,[0,2,0,0,0,0,0,0])],nX:=[(2,49,1)],jt:=[(8,31,145),(12,52,209),(2,61,49),(2,82,49)],dyn:=[(92,14)],bS:=[93],deep:=[104]} Tryz.f11
def abV:=aB {lits:=[(4,[4,5,8,7]),(14,[4,5,8,7])]} Tryz.f15
def ab1:=aB {bA:=[10,13,16,19],lits:=[(2,[4,5,8,7]),(20,[4,5,8,7]),(3,[4,5,8,7]),(5,[0,2,0,0]),(7,[0,2,0,0,0,0,0,0])]} Tryz.f26
def ab3:=aB {} Tryz.f28
def ab8:=aB {name:=[(20,97)],nX:=[(4,81,5),(5,97,5)],jt:=[(5,20,97)]} Tryz.f35
def ab9:=aB {} Tryz.f36
def Yb:=aB {lits:=[(2,[8,0]),(5,[8,0])]} Tryz.f49
def Yc:=aB {lits:=[(2,[7,0]),(5,[7,0])]} Tryz.f51
def c85:=aB {cL:=[some 2,none]} Tryz.f67
def c86:=aB {bA:=[31,50,61,69],lits:=[(2,[8]),(9,[1,0])],nX:=[(4,81,8)],jt:=[(4,31,81),(4,50,81),(4,61,81),(4,69,81)]} Tryz.f68
def acm:=aB {} Tryz.f75
def aco:=aB {lits:=[(0,[6])]} Tryz.f80
def Yg:=aB {} Tryz.f93
def acs:=aB {cL:=[none,some 4,none],lits:=[(7,[4,5,8,7])]} Tryz.f101
def acv:=aB {} Tryz.f103
def acE:=aB {cL:=[some 1,none,none,none]} Tryz.f129
def acF:=aB {} Tryz.f130
def acN:=aB {bA:=[31,34,37,40],lits:=[(6,[4,5,8,7]),(20,[4,5,8,7]),(41,[4,5,8,7]),(11,[4,5,8,7])]} Tryz.f139
def acO:=aB {} Tryz.f141
def acQ:=aB {} Tryz.f143
def Nk:=aB {bA:=[35],name:=[(52,180),(98,178),(150,179)],lits:=[(6,[4,5,8,7]),(31,[4,5,8,7]),(36,[0,0,0,7]),(10,[0,0,0,7]),(12,[0,2,0,0,0,0,0,0]),(15,[0,2,0,0]),(153,[4,5,8,7])],tag:=(some (0,1))} Tryz.f144
def acX:=aB {lits:=[(4,[4,5,8,7]),(12,[4,5,8,7]),(30,[4,5,8,7])]} Tryz.f152
def c8:=aB {} Tryz.f154
def ac3:=aB {} Tryz.f170
def Yp:=aB {} Tryz.f171
def ac4:=aB {name:=[(51,99),(56,65)],nX:=[(2,49,4),(3,65,4)],jt:=[(3,56,65)]} Tryz.f172
def c55:=aB {cL:=[some 1]} Tryz.f175
def adq:=aB {} Tryz.f205
def c15:=aB {} Tryz.f211
def c21:=aB {} Tryz.f217
def Yz:=aB {} Tryz.f239
def YA:=aB {} Tryz.f240
def adB:=aB {} Tryz.f246
def YE:=aB {Kv:=[2]} Tryz.f248
def adC:=aB {cL:=[some 2,none,none],lits:=[(6,[2])]} Tryz.f251
def adE:=aB {} Tryz.f254
def YH:=aB {} Tryz.f261
def adK:=aB {} Tryz.f265
def c34:=aB {} Tryz.f269
def YQ:=aB {} Tryz.f289
def adS:=aB {} Tryz.f300
def YT:=aB {} Tryz.f319
def YV:=aB {cL:=[some 2,none]} Tryz.f321
def adY:=aB {} Tryz.f325
def YZ:=aB {} Tryz.f334
def Y1:=aB {} Tryz.f336
def Y4:=aB {} Tryz.f341
def Y9:=aB {} Tryz.f358
end Go.AM
