/- Texts of the proof. -/
import Derived.Test.YtdifmldbllaeiaaGreatFp
set_option linter.unusedSimpArgs false
set_option linter.unusedVariables false
set_option maxRecDepth 100000
namespace Go.AM
open Go.Proofs
def abP:=aB {lits:=[(1,[4,5,8,7]),(2,[0,5]),(17,[0,5]),(3,[0,5]),(6,[4,5,8,7]),(84,[0,5]),(8,[0,5]),(91,[0,5]),(9,[0,5]),(10,[0,5])]} Tryz.f7
def abR:=aB {lits:=[(6,[4,5,8,7]),(10,[0,5]),(27,[4,5,8,7]),(13,[0,5]),(63,[4,5,8,7])]} Tryz.f9
def abU:=aB {jt:=[(8,12,145)]} Tryz.f14
def c77:=aB {bA:=[13,67,72],lits:=[(2,[4,5,8,7]),(3,[4,5,8,7]),(20,[1,0])]} Tryz.f25
def ab7:=aB {} Tryz.f33
def X8:=aB {cL:=[some 1],lits:=[(2,[1])]} Tryz.f34
def Ya:=aB {lits:=[(2,[5,0]),(5,[5,0])]} Tryz.f47
def acb:=aB {} Tryz.f57
def ace:=aB {} Tryz.f59
def acf:=aB {} Tryz.f60
def acg:=aB {} Tryz.f61
def ack:=aB {Kv:=[2]} Tryz.f74
def c40:=aB {} Tryz.f77
def acu:=aB {lits:=[(8,[0,2,0,0,0,0,0,0]),(12,[0,2,0,0])]} Tryz.f102
def Yi:=aB {cL:=[some 4,none,none,none,some 2],name:=[(31,17)],lits:=[(22,[0,2,0,0]),(11,[0,2,0,0])],nX:=[(10,177,4)]} Tryz.f104
def acw:=aB {} Tryz.f107
def acy:=aB {name:=[(52,97)],lits:=[(3,[1])],nX:=[(2,49,5),(5,97,5)],jt:=[(3,25,65),(3,38,65),(5,52,97)]} Tryz.f109
def c51:=aB {} Tryz.f126
def acH:=aB {cL:=[some 1,none,none,none]} Tryz.f132
def acT:=aB {name:=[(44,145)],lits:=[(6,[0,2,0,0,0,0,0,0]),(11,[0,2,0,0,0,0,0,0]),(14,[0,2,0,0,0,0,0,0])],nX:=[(8,145,8)],jt:=[(8,44,145)],bS:=[72,74]} Tryz.f148
def acW:=aB {lits:=[(6,[4,5,8,7])]} Tryz.f151
def c12:=aB {} Tryz.f155
def c7:=aB {bA:=[31,71],lits:=[(6,[4,5,8,7]),(20,[4,5,8,7]),(12,[4,5,8,7])]} Tryz.f156
def c22:=aB {} Tryz.f159
def acZ:=aB {} Tryz.f165
def Yo:=aB {name:=[(28,67)],lits:=[(2,[0,2,0,0]),(30,[0,2,0,0])]} Tryz.f169
def ac7:=aB {cL:=[none,none,none,none,some 1,none]} Tryz.f180
def c37:=aB {} Tryz.f187
def adj:=aB {} Tryz.f194
def adp:=aB {} Tryz.f204
def adu:=aB {bA:=[6],lits:=[(4,[8])]} Tryz.f209
def c20:=aB {} Tryz.f216
def c42:=aB {cL:=[some 5,none,none,none]} Tryz.f220
def Yw:=aB {} Tryz.f232
def adw:=aB {} Tryz.f233
def adx:=aB {} Tryz.f235
def Yy:=aB {} Tryz.f238
def adA:=aB {} Tryz.f245
def adF:=aB {} Tryz.f255
def c38:=aB {} Tryz.f262
def adM:=aB {jt:=[(4,11,81)],Kv:=[2]} Tryz.f267
def YN:=aB {} Tryz.f281
def YO:=aB {} Tryz.f282
def adR:=aB {cL:=[some 1],lits:=[(2,[1])]} Tryz.f299
def YS:=aB {} Tryz.f315
def adZ:=aB {} Tryz.f326
def ad1:=aB {} Tryz.f338
def Y3:=aB {} Tryz.f339
def ad4:=aB {} Tryz.f362
end Go.AM
