/- Texts of the proof. -/
import Derived.Test.YtdifmldbllaeiaaGreatFp
set_option linter.unusedSimpArgs false
set_option linter.unusedVariables false
set_option maxRecDepth 100000
namespace Go.AM
open Go.Proofs
def aff:=aJ {lits:=[(1,[4,5,8,7]),(2,[0,5]),(17,[0,5]),(3,[0,5]),(6,[4,5,8,7]),(84,[0,5]),(8,[0,5]),(91,[0,5]),(9,[0,5]),(10,[0,5])]} Tryz.f7
def afh:=aJ {lits:=[(6,[4,5,8,7]),(10,[0,5]),(27,[4,5,8,7]),(13,[0,5]),(63,[4,5,8,7])]} Tryz.f9
def afi:=aJ {name:=[(17,49)],qg:=[(2,49,2)],lh:=[(2,17,49)]} Tryz.f10
def afj:=aJ {name:=[(61,49),(82,49)],lits:=[(7,[0,2,0,0,0,0,0,0]),(11,[0,2,0,0,0,0,0,0])],qg:=[(2,49,1)],lh:=[(8,31,145),(12,52,209),(2,61,49),(2,82,49)],dyn:=[(92,14)],cn:=[93],deep:=[104]} Tryz.f11
def afl:=aJ {lits:=[(4,[4,5,8,7]),(14,[4,5,8,7])]} Tryz.f15
def afn:=aJ {} Tryz.f21
def afs:=aJ {} Tryz.f27
def afu:=aJ {} Tryz.f29
def afv:=aJ {lits:=[(2,[3])]} Tryz.f30
def aa9:=aJ {c6:=[some 1]} Tryz.f31
def aba:=aJ {c6:=[some 1],lits:=[(2,[1])]} Tryz.f34
def afz:=aJ {} Tryz.f36
def afH:=aJ {} Tryz.f63
def c84:=aJ {lits:=[(4,[1])]} Tryz.f66
def afK:=aJ {} Tryz.f75
def afP:=aJ {} Tryz.f83
def abg:=aJ {} Tryz.f87
def afS:=aJ {lits:=[(8,[0,2,0,0,0,0,0,0]),(12,[0,2,0,0])]} Tryz.f102
def abm:=aJ {} Tryz.f112
def af8:=aJ {} Tryz.f138
def agc:=aJ {} Tryz.f142
def QM:=aJ {bG:=[35],name:=[(52,180),(98,178),(150,179)],lits:=[(6,[4,5,8,7]),(31,[4,5,8,7]),(36,[0,0,0,7]),(10,[0,0,0,7]),(12,[0,2,0,0,0,0,0,0]),(15,[0,2,0,0]),(153,[4,5,8,7])],tag:=(some (0,1))} Tryz.f144
def agf:=aJ {} Tryz.f147
def agl:=aJ {lits:=[(4,[4,5,8,7]),(12,[4,5,8,7]),(30,[4,5,8,7])]} Tryz.f152
def c8:=aJ {} Tryz.f154
def ago:=aJ {lits:=[(4,[0,2,0,0,0,0,0,0]),(7,[0,2,0,0,0,0,0,0])]} Tryz.f166
def agp:=aJ {} Tryz.f167
def agA:=aJ {} Tryz.f189
def c17:=aJ {} Tryz.f195
def c24:=aJ {} Tryz.f212
def c16:=aJ {bG:=[8,11,14,17],lits:=[(2,[4,5,8,7]),(18,[4,5,8,7]),(3,[4,5,8,7])]} Tryz.f213
def c18:=aJ {c6:=[some 7,none,none],lits:=[(6,[7])]} Tryz.f214
def c26:=aJ {} Tryz.f219
def aby:=aJ {} Tryz.f230
def agU:=aJ {} Tryz.f237
def abE:=aJ {} Tryz.f240
def abF:=aJ {} Tryz.f241
def abG:=aJ {} Tryz.f242
def agV:=aJ {c6:=[none,none,none,some 1,none]} Tryz.f244
def abH:=aJ {} Tryz.f247
def abI:=aJ {NN:=[2]} Tryz.f248
def ag5:=aJ {} Tryz.f264
def abM:=aJ {c6:=[some 5,none,none,none,none]} Tryz.f272
def abP:=aJ {} Tryz.f279
def abT:=aJ {} Tryz.f283
def ab1:=aJ {} Tryz.f322
def ab5:=aJ {} Tryz.f335
def ab6:=aJ {} Tryz.f336
def acd:=aJ {} Tryz.f347
end Go.AM
