/- Texts of the proof. -/
import Derived.Test.YtdldmebldkgcnaaGreatFp
set_option linter.unusedSimpArgs false
set_option linter.unusedVariables false
set_option maxRecDepth 100000
namespace Go.AM
open Go.Proofs
def aez:=aF {lits:=[(4,[4,5,8,7])],ig:=[(5,17,97),(6,20,113)]} Tryz.f5
def aeC:=aF {bB:=[13],lits:=[(4,[4,5,8,7]),(5,[4,5,8,7])]} Tryz.f8
def aeD:=aF {name:=[(39,145),(50,145),(58,81)],lits:=[(10,[0,5])],mP:=[(4,81,6),(8,145,1)],ig:=[(8,39,145),(8,50,145),(4,58,81)],bS:=[10,6,12],deep:=[37,48,53]} Tryz.f9
def aeG:=aF {} Tryz.f12
def aeH:=aF {} Tryz.f13
def aeO:=aF {} Tryz.f20
def aeP:=aF {bB:=[6,7],lits:=[(2,[7])],ig:=[(3,7,65)],bS:=[10]} Tryz.f22
def aaP:=aF {} Tryz.f25
def c27:=aF {} Tryz.f34
def aaR:=aF {cu:=[some 1]} Tryz.f45
def ae4:=aF {} Tryz.f49
def ae5:=aF {} Tryz.f50
def c23:=aF {} Tryz.f70
def afa:=aF {cu:=[none,some 4,none],lits:=[(7,[4,5,8,7])]} Tryz.f73
def aa8:=aF {name:=[(51,99),(56,65)],mP:=[(2,49,4),(3,65,4)],ig:=[(3,56,65)]} Tryz.f85
def afg:=aF {cu:=[some 7,none,none,none,none]} Tryz.f87
def abb:=aF {} Tryz.f105
def c55:=aF {cu:=[some 1]} Tryz.f114
def afl:=aF {lits:=[(0,[6])]} Tryz.f117
def afo:=aF {} Tryz.f120
def abh:=aF {} Tryz.f122
def aft:=aF {} Tryz.f128
def afu:=aF {} Tryz.f129
def afx:=aF {} Tryz.f133
def afA:=aF {} Tryz.f138
def afC:=aF {name:=[(44,145)],lits:=[(6,[0,2,0,0,0,0,0,0]),(11,[0,2,0,0,0,0,0,0]),(14,[0,2,0,0,0,0,0,0])],mP:=[(8,145,8)],ig:=[(8,44,145)],bS:=[72,74]} Tryz.f140
def c9:=aF {name:=[(59,145),(82,97)],mP:=[(4,81,5),(5,97,5),(8,145,7)],ig:=[(8,59,145),(5,82,97)]} Tryz.f149
def afJ:=aF {} Tryz.f153
def af0:=aF {name:=[(21,97)],lits:=[(7,[0,2,0,0])],mP:=[(4,81,4),(5,97,4)],ig:=[(5,21,97)]} Tryz.f180
def c15:=aF {} Tryz.f185
def c16:=aF {bB:=[8,11,14,17],lits:=[(2,[4,5,8,7]),(18,[4,5,8,7]),(3,[4,5,8,7])]} Tryz.f187
def c18:=aF {cu:=[some 7,none,none],lits:=[(6,[7])]} Tryz.f188
def abp:=aF {} Tryz.f196
def af6:=aF {} Tryz.f198
def aga:=aF {cu:=[some 2,none,none],lits:=[(6,[2])]} Tryz.f207
def agb:=aF {QA:=[4]} Tryz.f208
def agd:=aF {} Tryz.f211
def agl:=aF {} Tryz.f222
def c34:=aF {} Tryz.f225
def abz:=aF {} Tryz.f229
def abC:=aF {} Tryz.f236
def agq:=aF {cu:=[some 1],lits:=[(2,[1])]} Tryz.f245
def agr:=aF {} Tryz.f246
def agx:=aF {cu:=[some 2,none]} Tryz.f261
def abF:=aF {} Tryz.f264
def abG:=aF {} Tryz.f265
def agC:=aF {} Tryz.f271
def agJ:=aF {cu:=[some 1,none,none,none]} Tryz.f293
def agO:=aF {cu:=[some 1,none,none,none,none]} Tryz.f298
end Go.AM
