/- Texts of the proof. -/
import Derived.Test.YtdldmebldkgcnaaGreatFp
set_option linter.unusedSimpArgs false
set_option linter.unusedVariables false
set_option maxRecDepth 100000
namespace Go.AM
open Go.Proofs
def aeI:=aF {} Tryz.f14
def aeL:=aF {lits:=[(0,[4,5,8,7]),(7,[4,5,8,7])]} Tryz.f17
def aeN:=aF {} Tryz.f19
def aeX:=aF {} Tryz.f33
def c83:=aF {bB:=[143,180,204,207],lits:=[(2,[4]),(3,[5]),(4,[1]),(5,[1]),(6,[1]),(40,[1,0]),(105,[1,0])],mP:=[(14,241,4)],ig:=[(14,143,241),(14,180,241),(14,204,241)]} Tryz.f35
def c84:=aF {lits:=[(4,[1])]} Tryz.f36
def aeY:=aF {} Tryz.f42
def ae3:=aF {} Tryz.f48
def aaV:=aF {cu:=[none,none,some 2],name:=[(71,129),(75,129)],lits:=[(6,[2])],ig:=[(7,14,129),(7,71,129)]} Tryz.f57
def aa1:=aF {} Tryz.f66
def afc:=aF {lits:=[(4,[4,5,8,7]),(14,[4,5,8,7])]} Tryz.f75
def aa5:=aF {} Tryz.f82
def c36:=aF {} Tryz.f88
def afi:=aF {} Tryz.f101
def afj:=aF {} Tryz.f102
def afn:=aF {} Tryz.f119
def afv:=aF {} Tryz.f130
def afz:=aF {} Tryz.f135
def afE:=aF {} Tryz.f142
def c8:=aF {} Tryz.f146
def c12:=aF {} Tryz.f147
def afI:=aF {} Tryz.f151
def abk:=aF {} Tryz.f152
def afK:=aF {} Tryz.f154
def abl:=aF {} Tryz.f155
def afM:=aF {} Tryz.f157
def afN:=aF {} Tryz.f163
def afO:=aF {cu:=[some 5,none]} Tryz.f164
def c17:=aF {} Tryz.f169
def afT:=aF {} Tryz.f172
def af1:=aF {lits:=[(4,[0,2,0,0])]} Tryz.f181
def c24:=aF {} Tryz.f186
def c20:=aF {} Tryz.f190
def c25:=aF {cu:=[some 5,none]} Tryz.f192
def abq:=aF {} Tryz.f201
def abv:=aF {} Tryz.f206
def agi:=aF {} Tryz.f219
def agj:=aF {lits:=[(2,[3])]} Tryz.f220
def agm:=aF {ig:=[(4,11,81)],QA:=[2]} Tryz.f223
def aby:=aF {cu:=[some 5,none,none,none,none]} Tryz.f228
def abB:=aF {ig:=[(11,64,193),(12,67,209)]} Tryz.f232
def ago:=aF {ig:=[(9,43,161)]} Tryz.f234
def ags:=aF {} Tryz.f247
def agu:=aF {name:=[(61,49),(82,49)],lits:=[(7,[0,2,0,0,0,0,0,0]),(11,[0,2,0,0,0,0,0,0])],mP:=[(2,49,1)],ig:=[(8,31,145),(12,52,209),(2,61,49),(2,82,49)],dyn:=[(92,14)],bS:=[93],deep:=[104]} Tryz.f249
def agz:=aF {} Tryz.f263
def agB:=aF {} Tryz.f267
def agI:=aF {cu:=[some 1,none,none,none,none]} Tryz.f282
def agK:=aF {cu:=[some 1,none,none,none]} Tryz.f294
def agL:=aF {} Tryz.f295
end Go.AM
