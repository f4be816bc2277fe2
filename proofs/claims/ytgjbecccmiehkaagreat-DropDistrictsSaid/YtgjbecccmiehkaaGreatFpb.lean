/- Texts of the proof. -/
import Derived.Test.YtgjbecccmiehkaaGreatFp
set_option linter.unusedSimpArgs false
set_option linter.unusedVariables false
set_option maxRecDepth 100000
namespace Go.AM
open Go.Proofs
def Ox:=aW {name:=[(63,97),(76,161)],lits:=[(7,[0,2,0,0])],vz:=[(4,81,5),(5,97,5),(9,161,5)],nP:=[(5,63,97),(9,76,161)]} Tryz.f7
def RF:=aW {lits:=[(0,[4,5,8,7]),(1,[4,5,8,7]),(4,[0,2,0,0]),(7,[0,2,0,0]),(10,[0,2,0,0])]} Tryz.f10
def RH:=aW {name:=[(24,65)],vz:=[(2,49,2),(3,65,2)],nP:=[(3,24,65)]} Tryz.f13
def RL:=aW {} Tryz.f19
def RM:=aW {gU:=[some 5,none]} Tryz.f20
def RN:=aW {} Tryz.f21
def Wi:=aW {gU:=[some 2,none]} Tryz.f36
def Wj:=aW {aY:=[31,50,61,69],lits:=[(2,[8]),(9,[1,0])],vz:=[(4,81,8)],nP:=[(4,31,81),(4,50,81),(4,61,81),(4,69,81)]} Tryz.f37
def RW:=aW {} Tryz.f45
def RY:=aW {} Tryz.f50
def R1:=aW {} Tryz.f53
def Oe:=aW {} Tryz.f62
def Og:=aW {} Tryz.f63
def UT:=aW {} Tryz.f81
def QK:=aW {} Tryz.f90
def Sc:=aW {} Tryz.f99
def Ov:=aW {} Tryz.f105
def Ss:=aW {} Tryz.f125
def Sv:=aW {} Tryz.f127
def SA:=aW {} Tryz.f134
def SE:=aW {} Tryz.f139
def SM:=aW {} Tryz.f155
def SN:=aW {} Tryz.f156
end Go.AM
