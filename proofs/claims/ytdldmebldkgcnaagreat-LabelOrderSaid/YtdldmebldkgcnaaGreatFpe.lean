/- Texts of the proof. -/
import Derived.Test.YtdldmebldkgcnaaGreatFp
set_option linter.unusedSimpArgs false
set_option linter.unusedVariables false
set_option maxRecDepth 100000
namespace Go.AM
open Go.Proofs
def aey:=aF {lits:=[(6,[4,5,8,7])],ig:=[(7,21,129),(10,46,177)]} Tryz.f3
def aeB:=aF {bB:=[6],lits:=[(1,[4,5,8,7]),(126,[0,5])],ig:=[(2,8,49),(5,128,97)],bS:=[8,10]} Tryz.f7
def aeJ:=aF {name:=[(16,49)],mP:=[(2,49,1)],ig:=[(2,16,49)]} Tryz.f15
def aeR:=aF {} Tryz.f24
def aeU:=aF {} Tryz.f30
def c86:=aF {bB:=[31,50,61,69],lits:=[(2,[8]),(9,[1,0])],mP:=[(4,81,8)],ig:=[(4,31,81),(4,50,81),(4,61,81),(4,69,81)]} Tryz.f38
def aaQ:=aF {cu:=[some 7,none],lits:=[(4,[7])]} Tryz.f40
def aeZ:=aF {cu:=[some 7,none]} Tryz.f43
def c37:=aF {} Tryz.f51
def aaT:=aF {} Tryz.f53
def aaW:=aF {cu:=[some 4,none,none,some 2],bB:=[95],lits:=[(8,[4])],ig:=[(10,50,177),(10,90,177)]} Tryz.f60
def aaZ:=aF {} Tryz.f64
def ae9:=aF {cu:=[some 7,none,none]} Tryz.f68
def c22:=aF {} Tryz.f69
def afb:=aF {ig:=[(8,12,145)]} Tryz.f74
def aa4:=aF {name:=[(28,67)],lits:=[(2,[0,2,0,0]),(30,[0,2,0,0])]} Tryz.f81
def aff:=aF {cu:=[some 7,none,none,none]} Tryz.f86
def abc:=aF {} Tryz.f106
def abf:=aF {} Tryz.f109
def abg:=aF {} Tryz.f110
def c54:=aF {} Tryz.f113
def abi:=aF {} Tryz.f123
def afs:=aF {cu:=[some 7,none,none,none,none]} Tryz.f126
def Qv:=aF {bB:=[35],name:=[(52,180),(98,178),(150,179)],lits:=[(6,[4,5,8,7]),(31,[4,5,8,7]),(36,[0,0,0,7]),(10,[0,0,0,7]),(12,[0,2,0,0,0,0,0,0]),(15,[0,2,0,0]),(153,[4,5,8,7])],tag:=(some (0,1))} Tryz.f136
def afB:=aF {} Tryz.f139
def afP:=aF {} Tryz.f165
def afR:=aF {QA:=[2]} Tryz.f167
def abn:=aF {cu:=[some 1,none],lits:=[(4,[1])]} Tryz.f170
def abJ:=aF {lits:=[(7,[0,2,0,0])]} Tryz.f173
def afU:=aF {} Tryz.f174
def afZ:=aF {} Tryz.f179
def af2:=aF {name:=[(21,97)],lits:=[(7,[0,2,0,0,0,0,0,0])],mP:=[(4,81,8),(5,97,8)],ig:=[(5,21,97)]} Tryz.f182
def c26:=aF {} Tryz.f193
def af5:=aF {} Tryz.f197
def af8:=aF {} Tryz.f200
def abr:=aF {} Tryz.f203
def abu:=aF {} Tryz.f205
def UZ:=aF {} Tryz.f209
def agc:=aF {} Tryz.f210
def abw:=aF {} Tryz.f213
def agf:=aF {} Tryz.f214
def agk:=aF {} Tryz.f221
def agA:=aF {} Tryz.f266
def agE:=aF {cu:=[some 1,none]} Tryz.f273
def agF:=aF {} Tryz.f274
def agQ:=aF {cu:=[some 1,none,none,none,none]} Tryz.f303
def agS:=aF {cu:=[none,none,none,none,some 1,none]} Tryz.f305
def agT:=aF {cu:=[none,none,none,some 1,none]} Tryz.f307
end Go.AM
