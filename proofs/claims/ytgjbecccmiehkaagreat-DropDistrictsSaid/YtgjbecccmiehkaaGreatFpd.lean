/- Texts of the proof. -/
import Derived.Test.YtgjbecccmiehkaaGreatFp
set_option linter.unusedSimpArgs false
set_option linter.unusedVariables false
set_option maxRecDepth 100000
namespace Go.AM
open Go.Proofs
def IX:=aW {lits:=[(6,[4,5,8,7]),(8,[4,5,8,7]),(12,[4,5,8,7])],nP:=[(7,20,129),(10,40,177)]} Tryz.f3
def UJ:=aW {name:=[(21,65),(34,65),(47,65)],lits:=[(2,[1]),(7,[0,2,0,0,0,0,0,0])],vz:=[(3,65,1)],nP:=[(3,21,65),(3,34,65),(3,47,65)]} Tryz.f6
def RE:=aW {aY:=[31,34,37,40],lits:=[(6,[4,5,8,7]),(20,[4,5,8,7]),(41,[4,5,8,7]),(11,[4,5,8,7])]} Tryz.f8
def RG:=aW {} Tryz.f11
def RR:=aW {} Tryz.f31
def UM:=aW {} Tryz.f33
def UN:=aW {} Tryz.f40
def RV:=aW {} Tryz.f44
def R2:=aW {Ln:=[4]} Tryz.f54
def IY:=aW {} Tryz.f55
def R3:=aW {} Tryz.f56
def Oq:=aW {} Tryz.f69
def R7:=aW {} Tryz.f92
def Sa:=aW {nP:=[(9,43,161)]} Tryz.f97
def Sm:=aW {} Tryz.f120
def Sp:=aW {} Tryz.f122
def Sr:=aW {} Tryz.f124
def Sx:=aW {} Tryz.f129
def SB:=aW {} Tryz.f135
def SC:=aW {} Tryz.f136
def SG:=aW {} Tryz.f141
def SK:=aW {} Tryz.f145
def SO:=aW {} Tryz.f157
end Go.AM
