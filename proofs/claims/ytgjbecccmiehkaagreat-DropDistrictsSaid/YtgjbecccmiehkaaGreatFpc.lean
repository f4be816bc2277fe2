/- Texts of the proof. -/
import Derived.Test.YtgjbecccmiehkaaGreatFp
set_option linter.unusedSimpArgs false
set_option linter.unusedVariables false
set_option maxRecDepth 100000
namespace Go.AM
open Go.Proofs
def RJ:=aW {gU:=[some 1]} Tryz.f16
def N9:=aW {gU:=[some 1],lits:=[(2,[1])]} Tryz.f17
def RO:=aW {} Tryz.f22
def Oa:=aW {} Tryz.f29
def Wk:=aW {name:=[(86,113)],lits:=[(14,[1,0])],vz:=[(4,81,7),(6,113,7)],nP:=[(6,86,113)]} Tryz.f38
def RU:=aW {} Tryz.f43
def RX:=aW {gU:=[some 2,none,none],lits:=[(6,[2])]} Tryz.f49
def R0:=aW {} Tryz.f52
def R4:=aW {} Tryz.f57
def Ob:=aW {gU:=[some 4,none,none,none,some 2],name:=[(31,17)],lits:=[(22,[0,2,0,0]),(11,[0,2,0,0])],vz:=[(10,177,4)]} Tryz.f60
def Ol:=aW {gU:=[some 8,none,none,none,some 2],name:=[(84,195),(90,195),(122,17)],lits:=[(10,[8])]} Tryz.f67
def Oo:=aW {} Tryz.f68
def Ot:=aW {} Tryz.f70
def US:=aW {} Tryz.f80
def R6:=aW {} Tryz.f91
def Sb:=aW {} Tryz.f98
def Ou:=aW {name:=[(43,113)],lits:=[(4,[1])],nP:=[(6,39,113)]} Tryz.f104
def Sg:=aW {} Tryz.f115
def Sz:=aW {} Tryz.f133
def SH:=aW {} Tryz.f142
def SI:=aW {} Tryz.f143
def SU:=aW {} Tryz.f164
def SV:=aW {} Tryz.f165
end Go.AM
