/- Texts of the proof. -/
import Derived.Test.YtgjbecccmiehkaaGreatFp
set_option linter.unusedSimpArgs false
set_option linter.unusedVariables false
set_option maxRecDepth 100000
namespace Go.AM
open Go.Proofs
def RC:=aW {lits:=[(1,[4,5,8,7]),(3,[4,5,8,7])],nP:=[(5,55,97)]} Tryz.f4
def N8:=aW {} Tryz.f12
def Wg:=aW {aY:=[13,67,72],lits:=[(2,[4,5,8,7]),(3,[4,5,8,7]),(20,[1,0])]} Tryz.f15
def RK:=aW {} Tryz.f18
def RS:=aW {} Tryz.f41
def RT:=aW {} Tryz.f42
def UO:=aW {} Tryz.f47
def UP:=aW {} Tryz.f48
def RZ:=aW {Ln:=[2]} Tryz.f51
def R5:=aW {} Tryz.f58
def UQ:=aW {} Tryz.f59
def Od:=aW {gU:=[none,none,some 2],name:=[(71,129),(75,129)],lits:=[(6,[2])],nP:=[(7,14,129),(7,71,129)]} Tryz.f61
def Oj:=aW {name:=[(52,97)],lits:=[(3,[1])],vz:=[(2,49,5),(5,97,5)],nP:=[(3,25,65),(3,38,65),(5,52,97)]} Tryz.f65
def UR:=aW {} Tryz.f66
def R9:=aW {nP:=[(11,64,193),(12,67,209)]} Tryz.f95
def Sk:=aW {} Tryz.f118
def Sl:=aW {gU:=[some 2,none]} Tryz.f119
def Sn:=aW {} Tryz.f121
def Sq:=aW {} Tryz.f123
def Su:=aW {} Tryz.f126
def Sw:=aW {} Tryz.f128
def SF:=aW {} Tryz.f140
def SJ:=aW {} Tryz.f144
def SQ:=aW {} Tryz.f162
end Go.AM
