/- Texts of the proof. -/
import Derived.Test.YtgjbecccmiehkaaGreatFp
set_option linter.unusedSimpArgs false
set_option linter.unusedVariables false
set_option maxRecDepth 100000
namespace Go.AM
open Go.Proofs
def RD:=aW {lits:=[(2,[4,5,8,7])]} Tryz.f5
def UK:=aW {} Tryz.f9
def RI:=aW {} Tryz.f14
def RP:=aW {aY:=[12],lits:=[(4,[2])]} Tryz.f28
def RQ:=aW {} Tryz.f30
def UL:=aW {} Tryz.f32
def Nn:=aW {aY:=[143,180,204,207],lits:=[(2,[4]),(3,[5]),(4,[1]),(5,[1]),(6,[1]),(40,[1,0]),(105,[1,0])],vz:=[(14,241,4)],nP:=[(14,143,241),(14,180,241),(14,204,241)]} Tryz.f34
def Wh:=aW {lits:=[(4,[1])]} Tryz.f35
def Oi:=aW {gU:=[some 4,none,none,some 2],aY:=[95],lits:=[(8,[4])],nP:=[(10,50,177),(10,90,177)]} Tryz.f64
def R8:=aW {} Tryz.f93
def UU:=aW {} Tryz.f100
def Sd:=aW {name:=[(28,67)],lits:=[(2,[0,2,0,0]),(30,[0,2,0,0])]} Tryz.f102
def Se:=aW {} Tryz.f103
def Ow:=aW {name:=[(51,99),(56,65)],vz:=[(2,49,4),(3,65,4)],nP:=[(3,56,65)]} Tryz.f106
def Si:=aW {} Tryz.f116
def Sj:=aW {} Tryz.f117
def Sy:=aW {} Tryz.f130
def SD:=aW {} Tryz.f138
def SL:=aW {} Tryz.f154
def SP:=aW {} Tryz.f158
def SR:=aW {} Tryz.f163
def SX:=aW {} Tryz.f166
end Go.AM
