/-
  Texts of the proof: AmFns.
-/
import Derived.Test.YtjmcpijpclfakaaGreatBase
import Derived.Test.YtjmcpijpclfakaaGreatOpsA
import Derived.Test.YtjmcpijpclfakaaGreatProg
set_option linter.unusedSimpArgs false
set_option linter.unusedVariables false
set_option maxRecDepth 100000
namespace Go.AM
open Go.Proofs
def EW:List Nat:=[0,1,2,309,310,311,312,313,314,315,316,317,318,319,320,321,322,323,324,325,326,327,328,329,330,331,85,332,333,334,93,335,336,337,338,339,340,341,342,343,344,345,346,347,348,349,350,351,352,353,354,355,356,357,358,359,360,361,362,363,364,365,366,367,368,369,370,371,372,373,374,375,376,377,378,379,380,381,382,383,384,385,386,387,388,389,390,391,392,393,394,395,396,226,397,398,399,400,401,402,259,403,404,405,406,407,408,409,410,411,412,413,414,415,416,417,418,419,420,257,258,421,422,423,280,424,425,426,427,428,429,430,279,431,432,433,434,435,436,437,438,439,440,441,59,60,61,62,63,64,65,66,67,68,69,70,71,72,73,74]
def EX:List (Nat×Nat):=[(2,2),(3,3),(4,4),(5,5),(6,6),(9,9),(10,10),(11,11),(12,12),(21,21)]
noncomputable def X0:TrEnv:=⟨Tryz.prog,fun F=>EW[F]?,fun t=> (EX.find? (·.1==t)).map (·.2)⟩
abbrev agF (h:Hints) (F:Func):Type:={f:aU // aN X0 h F=some f}
def agH:aB→List aB
 | .seq a b=>agH a++agH b
 | .block _ a=>agH a
 | .scope a=>agH a
 | .cond _ a b=>agH a++agH b
 | .loop a=>agH a++[a]
 | .pf _ _ _ a=>agH a
 | _=> []
def agJ:agF {name:=[(104,321)],afK:=[(11,36,193),(12,38,209),(13,41,225),(18,72,305),(19,86,321),(19,104,321)]} Tryz.f4:=⟨_,by conv=>lhs;cbv⟩
def Sy:aU:=agJ.1
def agK:agF {lits:=[(18,[0,0,0,1])],afK:=[(3,19,65)]} Tryz.f5:=⟨_,by conv=>lhs;cbv⟩
def SA:aU:=agK.1
def agL:agF {lits:=[(6,[1,0])]} Tryz.f6:=⟨_,by conv=>lhs;cbv⟩
def SC:aU:=agL.1
def agM:agF {name:=[(89,97)],lits:=[(36,[0,0,0,1]),(9,[0,0,0,1])],afJ:=[(4,81,4),(5,97,4)],afK:=[(5,89,97)]} Tryz.f9:=⟨_,by conv=>lhs;cbv⟩
def SE:aU:=agM.1
def agN:agF {name:=[(58,101),(63,65)],afJ:=[(2,49,4),(3,65,4)],afK:=[(3,63,65)]} Tryz.f10:=⟨_,by conv=>lhs;cbv⟩
def SG:aU:=agN.1
def agO:agF {lits:=[(9,[0,0,1,0,0])]} Tryz.f11:=⟨_,by conv=>lhs;cbv⟩
def aaa:aU:=agO.1
def agP:agF {} Tryz.f13:=⟨_,by conv=>lhs;cbv⟩
def SJ:aU:=agP.1
def agQ:agF {lits:=[(4,[0,0,0,0,0,0,7])]} Tryz.f14:=⟨_,by conv=>lhs;cbv⟩
def aab:aU:=agQ.1
def agR:agF {b6:=[32],lits:=[(4,[0,0,0,0,0,0,7]),(7,[0,0,0,0,0,0,7]),(9,[0,0,0,0,0,0,7])]} Tryz.f15:=⟨_,by conv=>lhs;cbv⟩
def SM:aU:=agR.1
def agS:agF {} Tryz.f16:=⟨_,by conv=>lhs;cbv⟩
def SO:aU:=agS.1
def agT:agF {name:=[(53,97)],lits:=[(10,[1,0]),(13,[0,0,0,0,0,0,7]),(4,[0,0,0,0,0,0,7]),(25,[0,0,0,0,0,0,0,0,7,0,0,0,0,0,0,7,0,0,0,0,0,0,7,0,0,0,0,0,0,7]),(49,[0,0,0,0,0,0,0,0,7,0,0,0,0,0,0,7,0,0,0,0,0,0,7,0,0,0,0,0,0,7]),(8,[0,0,0,0,0,0,0,0,7,0,0,0,0,0,0,7,0,0,0,0,0,0,7,0,0,0,0,0,0,7])],afJ:=[(2,49,30)],afK:=[(5,26,97),(5,53,97)]} Tryz.f18:=⟨_,by conv=>lhs;cbv⟩
def SQ:aU:=agT.1
def agU:agF {name:=[(126,97),(67,97)],lits:=[(21,[1,0]),(28,[0,0,0,0,0,0,0,0,7,0,0,0,0,0,0,7,0,0,0,0,0,0,7,0,0,0,0,0,0,7]),(108,[0,0,0,0,0,0,7]),(134,[1,0]),(65,[0,0,0,0,0,0,0,0,7,0,0,0,0,0,0,7,0,0,0,0,0,0,7,0,0,0,0,0,0,7])],afJ:=[(4,81,30)],afK:=[(5,11,97),(5,126,97)],deep:=[135,22]} Tryz.f19:=⟨_,by conv=>lhs;cbv⟩
def FK:aU:=agU.1
def agV:agF {} Tryz.f20:=⟨_,by conv=>lhs;cbv⟩
def SU:aU:=agV.1
def agW:agF {name:=[(51,145)],lits:=[(10,[0,0,0,0,0,0,0,0,7,0,0,0,0,0,0,7,0,0,0,0,0,0,7,0,0,0,0,0,0,7])],afJ:=[(4,81,30),(8,145,30)],afK:=[(8,51,145)]} Tryz.f21:=⟨_,by conv=>lhs;cbv⟩
def SW:aU:=agW.1
def agX:agF {name:=[(73,113)],lits:=[(8,[0,0,0,0,0,0,0,0,7,0,0,0,0,0,0,7,0,0,0,0,0,0,7,0,0,0,0,0,0,7])],afJ:=[(4,81,30),(6,113,30)],afK:=[(6,73,113)]} Tryz.f22:=⟨_,by conv=>lhs;cbv⟩
def SY:aU:=agX.1
def agY:agF {lits:=[(4,[0,0,0,0,0,0,0,0,7,0,0,0,0,0,0,7,0,0,0,0,0,0,7,0,0,0,0,0,0,7])]} Tryz.f23:=⟨_,by conv=>lhs;cbv⟩
def S4:aU:=agY.1
def agZ:agF {name:=[(70,145)],lits:=[(10,[0,0,0,0,0,0,0,0,7,0,0,0,0,0,0,7,0,0,0,0,0,0,7,0,0,0,0,0,0,7]),(14,[0,0,0,0,0,0,0,0,7,0,0,0,0,0,0,7,0,0,0,0,0,0,7,0,0,0,0,0,0,7])],afJ:=[(8,145,30)],afK:=[(8,70,145),(8,35,145)]} Tryz.f24:=⟨_,by conv=>lhs;cbv⟩
def S6:aU:=agZ.1
def ag0:agF {lits:=[(13,[0,0,0,1]),(15,[0,0,0,1]),(16,[0,0,0,1])],afK:=[(9,17,161)]} Tryz.f25:=⟨_,by conv=>lhs;cbv⟩
def aac:aU:=ag0.1
def c85:agF {yq:=[some 2,none]} Tryz.f26:=⟨_,by conv=>lhs;cbv⟩
def f85:aU:=c85.1
def ag1:agF {lits:=[(0,[1])]} Tryz.f27:=⟨_,by conv=>lhs;cbv⟩
def S9:aU:=ag1.1
def ag2:agF {name:=[(23,69)],lits:=[(2,[0,0,0,0,0,0,7])]} Tryz.f29:=⟨_,by conv=>lhs;cbv⟩
def Tb:aU:=ag2.1
def c93:agF {} Tryz.f30:=⟨_,by conv=>lhs;cbv⟩
def f93:aU:=c93.1
def ag3:agF {} Tryz.f31:=⟨_,by conv=>lhs;cbv⟩
def Td:aU:=ag3.1
def ag4:agF {} Tryz.f32:=⟨_,by conv=>lhs;cbv⟩
def Tf:aU:=ag4.1
def ag5:agF {} Tryz.f33:=⟨_,by conv=>lhs;cbv⟩
def Ti:aU:=ag5.1
def ag6:agF {} Tryz.f34:=⟨_,by conv=>lhs;cbv⟩
def Tk:aU:=ag6.1
def ag7:agF {b6:=[16],lits:=[(26,[0,0,1,0,0]),(6,[0,0,1,0,0]),(7,[0,0,1,0,0]),(9,[0,0,0,1]),(48,[0,0,1,0,0])],afK:=[(5,18,97)],afL:=[2]} Tryz.f35:=⟨_,by conv=>lhs;cbv⟩
def Tm:aU:=ag7.1
def ag8:agF {lits:=[(4,[0,0,1,0,0]),(5,[0,0,1,0,0]),(36,[0,0,1,0,0]),(6,[0,0,1,0,0])],afK:=[(7,78,129)]} Tryz.f36:=⟨_,by conv=>lhs;cbv⟩
def To:aU:=ag8.1
def ag9:agF {} Tryz.f37:=⟨_,by conv=>lhs;cbv⟩
def Tq:aU:=ag9.1
def aha:agF {} Tryz.f38:=⟨_,by conv=>lhs;cbv⟩
def Ts:aU:=aha.1
def ahb:agF {name:=[(20,37)],lits:=[(2,[0,0,0,0,0,0,7]),(5,[0,0,0,0,0,0,7])]} Tryz.f39:=⟨_,by conv=>lhs;cbv⟩
def Tu:aU:=ahb.1
def ahc:agF {name:=[(120,69)],lits:=[(4,[0,0,0,0,0,0,7]),(7,[0,0,0,0,0,0,7]),(9,[0,0,1,0,0]),(14,[0,0,0,0,0,0,7])]} Tryz.f40:=⟨_,by conv=>lhs;cbv⟩
def Tw:aU:=ahc.1
def ahd:agF {lits:=[(6,[0,0,0,0,0,0,7]),(13,[0,0,0,0,0,0,7]),(8,[0,0,0,0,0,0,7])]} Tryz.f41:=⟨_,by conv=>lhs;cbv⟩
def Ty:aU:=ahd.1
def ahe:agF {} Tryz.f42:=⟨_,by conv=>lhs;cbv⟩
def TA:aU:=ahe.1
def ahf:agF {lits:=[(10,[0,0,0,0,0,0,7])]} Tryz.f43:=⟨_,by conv=>lhs;cbv⟩
def TC:aU:=ahf.1
def ahg:agF {} Tryz.f44:=⟨_,by conv=>lhs;cbv⟩
def TE:aU:=ahg.1
def ahh:agF {} Tryz.f45:=⟨_,by conv=>lhs;cbv⟩
def TG:aU:=ahh.1
def ahi:agF {lits:=[(2,[0,0,1,0,0]),(10,[0,0,1,0,0]),(21,[0,0,1,0,0])]} Tryz.f46:=⟨_,by conv=>lhs;cbv⟩
def TI:aU:=ahi.1
def ahj:agF {} Tryz.f47:=⟨_,by conv=>lhs;cbv⟩
def TK:aU:=ahj.1
def ahk:agF {} Tryz.f48:=⟨_,by conv=>lhs;cbv⟩
def TM:aU:=ahk.1
def ahl:agF {} Tryz.f49:=⟨_,by conv=>lhs;cbv⟩
def TO:aU:=ahl.1
def ahm:agF {yq:=[some 2,none],lits:=[(4,[0,0,0,0,0,0,7]),(6,[0,0,0,0,0,0,7]),(7,[0,0,0,0,0,0,7]),(43,[0,0,0,0,0,0,7]),(8,[0,0,0,0,0,0,7]),(59,[0,0,0,0,0,0,7])]} Tryz.f50:=⟨_,by conv=>lhs;cbv⟩
def TQ:aU:=ahm.1
def ahn:agF {lits:=[(2,[0,0,0,0,0,0,7]),(5,[0,0,0,0,0,0,7])]} Tryz.f51:=⟨_,by conv=>lhs;cbv⟩
def Oz:aU:=ahn.1
def aho:agF {yq:=[some 2,none],lits:=[(4,[0,0,0,0,0,0,7]),(24,[0,0,0,0,0,0,7]),(6,[0,0,0,0,0,0,7]),(38,[0,0,0,0,0,0,7])]} Tryz.f52:=⟨_,by conv=>lhs;cbv⟩
def TU:aU:=aho.1
def ahp:agF {yq:=[some 2],lits:=[(2,[0,0,0,0,0,0,7]),(13,[0,0,0,0,0,0,7]),(24,[0,0,0,0,0,0,7]),(32,[0,0,0,0,0,0,7]),(43,[0,0,0,0,0,0,7]),(52,[0,0,0,0,0,0,7]),(63,[0,0,0,0,0,0,7]),(72,[0,0,0,0,0,0,7]),(74,[0,0,0,0,0,0,7])]} Tryz.f53:=⟨_,by conv=>lhs;cbv⟩
def TX:aU:=ahp.1
def ahq:agF {lits:=[(2,[0,0,0,0,0,0,7]),(5,[0,0,0,0,0,0,7])]} Tryz.f54:=⟨_,by conv=>lhs;cbv⟩
def TZ:aU:=ahq.1
def ahr:agF {lits:=[(2,[0,0,0,0,0,0,7]),(4,[0,0,0,0,0,0,7])]} Tryz.f55:=⟨_,by conv=>lhs;cbv⟩
def T5:aU:=ahr.1
def ahs:agF {} Tryz.f56:=⟨_,by conv=>lhs;cbv⟩
def T7:aU:=ahs.1
def aht:agF {} Tryz.f57:=⟨_,by conv=>lhs;cbv⟩
def T9:aU:=aht.1
def ahu:agF {} Tryz.f58:=⟨_,by conv=>lhs;cbv⟩
def Ub:aU:=ahu.1
def ahv:agF {} Tryz.f59:=⟨_,by conv=>lhs;cbv⟩
def Ud:aU:=ahv.1
def ahw:agF {lits:=[(6,[0,0,0,0,0,0,7])]} Tryz.f60:=⟨_,by conv=>lhs;cbv⟩
def Uf:aU:=ahw.1
def ahx:agF {} Tryz.f61:=⟨_,by conv=>lhs;cbv⟩
def Uh:aU:=ahx.1
def ahy:agF {lits:=[(2,[0,0,0,0,0,0,7]),(3,[0,0,0,0,0,0,7])]} Tryz.f62:=⟨_,by conv=>lhs;cbv⟩
def aaf:aU:=ahy.1
def ahz:agF {} Tryz.f64:=⟨_,by conv=>lhs;cbv⟩
def Uk:aU:=ahz.1
def ahA:agF {} Tryz.f65:=⟨_,by conv=>lhs;cbv⟩
def Um:aU:=ahA.1
def ahB:agF {lits:=[(5,[0,0,0,0,0,0,7])]} Tryz.f66:=⟨_,by conv=>lhs;cbv⟩
def Uo:aU:=ahB.1
def ahC:agF {lits:=[(7,[0,0,0,0,0,0,7])]} Tryz.f67:=⟨_,by conv=>lhs;cbv⟩
def Uq:aU:=ahC.1
def ahD:agF {yq:=[some 4,none],lits:=[(4,[4]),(7,[0,0,0,1])]} Tryz.f68:=⟨_,by conv=>lhs;cbv⟩
def Us:aU:=ahD.1
def ahE:agF {} Tryz.f70:=⟨_,by conv=>lhs;cbv⟩
def Uu:aU:=ahE.1
def ahF:agF {lits:=[(7,[0,0,0,0,0,0,7])]} Tryz.f71:=⟨_,by conv=>lhs;cbv⟩
def Uw:aU:=ahF.1
def ahG:agF {name:=[(37,68)],lits:=[(2,[0,0,1,0,0])]} Tryz.f72:=⟨_,by conv=>lhs;cbv⟩
def Uy:aU:=ahG.1
def ahH:agF {lits:=[(0,[0,0,1,0,0]),(1,[0,0,1,0,0])]} Tryz.f73:=⟨_,by conv=>lhs;cbv⟩
def UA:aU:=ahH.1
def ahI:agF {b6:=[33],name:=[(48,97)],lits:=[(4,[0,0,1,0,0]),(21,[0,0,1,0,0]),(30,[0,0,1,0,0]),(51,[0,0,1,0,0])],afK:=[(5,33,97),(5,48,97)]} Tryz.f74:=⟨_,by conv=>lhs;cbv⟩
def UC:aU:=ahI.1
def ahJ:agF {lits:=[(0,[2])]} Tryz.f75:=⟨_,by conv=>lhs;cbv⟩
def UE:aU:=ahJ.1
def ahK:agF {} Tryz.f76:=⟨_,by conv=>lhs;cbv⟩
def UG:aU:=ahK.1
def ahL:agF {} Tryz.f77:=⟨_,by conv=>lhs;cbv⟩
def UI:aU:=ahL.1
def ahM:agF {} Tryz.f78:=⟨_,by conv=>lhs;cbv⟩
def UK:aU:=ahM.1
def ahN:agF {} Tryz.f79:=⟨_,by conv=>lhs;cbv⟩
def UM:aU:=ahN.1
def ahO:agF {} Tryz.f80:=⟨_,by conv=>lhs;cbv⟩
def UO:aU:=ahO.1
def ahP:agF {} Tryz.f81:=⟨_,by conv=>lhs;cbv⟩
def UQ:aU:=ahP.1
def ahQ:agF {} Tryz.f82:=⟨_,by conv=>lhs;cbv⟩
def US:aU:=ahQ.1
def ahR:agF {lits:=[(6,[0,0,0,0,0,0,7]),(8,[0,0,1,0,0]),(17,[0,0,0,0,0,0,7]),(9,[0,0,0,0,0,0,7]),(29,[0,0,0,0,0,0,7])]} Tryz.f83:=⟨_,by conv=>lhs;cbv⟩
def UU:aU:=ahR.1
def ahS:agF {name:=[(105,209)],afJ:=[(4,81,1)],afK:=[(12,85,209),(12,105,209)]} Tryz.f84:=⟨_,by conv=>lhs;cbv⟩
def UX:aU:=ahS.1
def ahT:agF {} Tryz.f85:=⟨_,by conv=>lhs;cbv⟩
def UZ:aU:=ahT.1
def ahU:agF {} Tryz.f86:=⟨_,by conv=>lhs;cbv⟩
def U1:aU:=ahU.1
def ahV:agF {} Tryz.f87:=⟨_,by conv=>lhs;cbv⟩
def U3:aU:=ahV.1
def ahW:agF {name:=[(23,97)],lits:=[(7,[0,0,0,0,0,0,7])],afJ:=[(5,97,1)],afK:=[(5,23,97)]} Tryz.f88:=⟨_,by conv=>lhs;cbv⟩
def U5:aU:=ahW.1
def ahX:agF {} Tryz.f89:=⟨_,by conv=>lhs;cbv⟩
def U7:aU:=ahX.1
def ahY:agF {lits:=[(0,[0,0,1,0,0]),(1,[0,0,1,0,0])]} Tryz.f90:=⟨_,by conv=>lhs;cbv⟩
def U9:aU:=ahY.1
def ahZ:agF {lits:=[(0,[0,0,1,0,0]),(1,[0,0,1,0,0])]} Tryz.f91:=⟨_,by conv=>lhs;cbv⟩
def Vc:aU:=ahZ.1
def ah0:agF {} Tryz.f92:=⟨_,by conv=>lhs;cbv⟩
def Ve:aU:=ah0.1
def ah1:agF {} Tryz.f93:=⟨_,by conv=>lhs;cbv⟩
def Vg:aU:=ah1.1
def ah2:agF {} Tryz.f94:=⟨_,by conv=>lhs;cbv⟩
def Vi:aU:=ah2.1
def ah3:agF {} Tryz.f95:=⟨_,by conv=>lhs;cbv⟩
def Vk:aU:=ah3.1
def ah4:agF {lits:=[(2,[7])]} Tryz.f96:=⟨_,by conv=>lhs;cbv⟩
def Vm:aU:=ah4.1
def ah5:agF {lits:=[(2,[0,0,0,0,0,0,7]),(13,[0,0,0,0,0,0,7]),(21,[0,0,0,0,0,0,7]),(23,[1,0]),(7,[0,0,0,0,0,0,7]),(39,[0,0,0,0,0,0,7]),(47,[0,0,0,0,0,0,7])]} Tryz.f97:=⟨_,by conv=>lhs;cbv⟩
def aag:aU:=ah5.1
def ah6:agF {} Tryz.f98:=⟨_,by conv=>lhs;cbv⟩
def Vp:aU:=ah6.1
def ah7:agF {} Tryz.f99:=⟨_,by conv=>lhs;cbv⟩
def Vr:aU:=ah7.1
def ah8:agF {} Tryz.f100:=⟨_,by conv=>lhs;cbv⟩
def Vt:aU:=ah8.1
def ah9:agF {} Tryz.f101:=⟨_,by conv=>lhs;cbv⟩
def Vv:aU:=ah9.1
def aia:agF {} Tryz.f102:=⟨_,by conv=>lhs;cbv⟩
def Vx:aU:=aia.1
def aib:agF {} Tryz.f103:=⟨_,by conv=>lhs;cbv⟩
def Vz:aU:=aib.1
def aic:agF {} Tryz.f104:=⟨_,by conv=>lhs;cbv⟩
def VB:aU:=aic.1
def aid:agF {lits:=[(4,[0,0,1,0,0]),(15,[0,0,1,0,0])]} Tryz.f106:=⟨_,by conv=>lhs;cbv⟩
def VD:aU:=aid.1
def aie:agF {lits:=[(4,[0,0,1,0,0]),(15,[0,0,1,0,0])]} Tryz.f107:=⟨_,by conv=>lhs;cbv⟩
def VF:aU:=aie.1
def aif:agF {lits:=[(4,[0,0,1,0,0])]} Tryz.f108:=⟨_,by conv=>lhs;cbv⟩
def VH:aU:=aif.1
def aih:agF {lits:=[(4,[0,0,1,0,0])]} Tryz.f109:=⟨_,by conv=>lhs;cbv⟩
def VJ:aU:=aih.1
def aii:agF {lits:=[(4,[0,0,1,0,0]),(17,[0,0,1,0,0])]} Tryz.f110:=⟨_,by conv=>lhs;cbv⟩
def VL:aU:=aii.1
def aij:agF {lits:=[(4,[0,0,1,0,0]),(17,[0,0,1,0,0])]} Tryz.f111:=⟨_,by conv=>lhs;cbv⟩
def VN:aU:=aij.1
def aik:agF {lits:=[(4,[0,0,1,0,0]),(35,[0,0,1,0,0])],afK:=[(5,30,97)]} Tryz.f112:=⟨_,by conv=>lhs;cbv⟩
def VP:aU:=aik.1
def ail:agF {} Tryz.f113:=⟨_,by conv=>lhs;cbv⟩
def VR:aU:=ail.1
def aim:agF {} Tryz.f114:=⟨_,by conv=>lhs;cbv⟩
def VT:aU:=aim.1
def ain:agF {name:=[(83,145)],afJ:=[(4,81,1),(8,145,1)],afK:=[(8,83,145)]} Tryz.f115:=⟨_,by conv=>lhs;cbv⟩
def VV:aU:=ain.1
def aio:agF {} Tryz.f116:=⟨_,by conv=>lhs;cbv⟩
def VX:aU:=aio.1
def aip:agF {} Tryz.f117:=⟨_,by conv=>lhs;cbv⟩
def VZ:aU:=aip.1
def aiq:agF {} Tryz.f118:=⟨_,by conv=>lhs;cbv⟩
def V1:aU:=aiq.1
def air:agF {} Tryz.f119:=⟨_,by conv=>lhs;cbv⟩
def V3:aU:=air.1
def ais:agF {} Tryz.f120:=⟨_,by conv=>lhs;cbv⟩
def V5:aU:=ais.1
def ait:agF {} Tryz.f121:=⟨_,by conv=>lhs;cbv⟩
def V7:aU:=ait.1
def aiu:agF {name:=[(23,81)],afJ:=[(2,49,1),(4,81,1)],afK:=[(4,23,81)]} Tryz.f122:=⟨_,by conv=>lhs;cbv⟩
def aah:aU:=aiu.1
def aiv:agF {yq:=[some 2],lits:=[(2,[0,0,0,0,0,0,7]),(11,[0,0,0,0,0,0,7]),(20,[0,0,0,0,0,0,7]),(3,[0,0,0,0,0,0,7]),(4,[0,0,0,0,0,0,7]),(39,[0,0,0,0,0,0,7]),(5,[0,0,0,0,0,0,7]),(59,[0,0,0,0,0,0,7])]} Tryz.f123:=⟨_,by conv=>lhs;cbv⟩
def aai:aU:=aiv.1
def aiw:agF {} Tryz.f124:=⟨_,by conv=>lhs;cbv⟩
def Wb:aU:=aiw.1
def aix:agF {} Tryz.f125:=⟨_,by conv=>lhs;cbv⟩
def Wd:aU:=aix.1
def aiy:agF {} Tryz.f126:=⟨_,by conv=>lhs;cbv⟩
def Wf:aU:=aiy.1
def aiz:agF {} Tryz.f127:=⟨_,by conv=>lhs;cbv⟩
def Wh:aU:=aiz.1
def aiA:agF {} Tryz.f128:=⟨_,by conv=>lhs;cbv⟩
def Wj:aU:=aiA.1
def aiB:agF {} Tryz.f129:=⟨_,by conv=>lhs;cbv⟩
def Wl:aU:=aiB.1
def aiC:agF {} Tryz.f130:=⟨_,by conv=>lhs;cbv⟩
def Wn:aU:=aiC.1
def aiD:agF {} Tryz.f131:=⟨_,by conv=>lhs;cbv⟩
def Wp:aU:=aiD.1
def aiE:agF {} Tryz.f132:=⟨_,by conv=>lhs;cbv⟩
def Wr:aU:=aiE.1
def aiF:agF {} Tryz.f133:=⟨_,by conv=>lhs;cbv⟩
def aaj:aU:=aiF.1
def aiG:agF {yq:=[some 2]} Tryz.f134:=⟨_,by conv=>lhs;cbv⟩
def aak:aU:=aiG.1
def aiH:agF {yq:=[some 2,none]} Tryz.f135:=⟨_,by conv=>lhs;cbv⟩
def aal:aU:=aiH.1
def aiI:agF {yq:=[some 2],lits:=[(2,[0,0,0,0,0,0,7]),(15,[0,0,0,0,0,0,7]),(4,[0,0,0,0,0,0,7]),(33,[0,0,0,0,0,0,7]),(6,[0,0,0,0,0,0,7])]} Tryz.f136:=⟨_,by conv=>lhs;cbv⟩
def aam:aU:=aiI.1
def aiJ:agF {} Tryz.f137:=⟨_,by conv=>lhs;cbv⟩
def aan:aU:=aiJ.1
def aiK:agF {lits:=[(0,[1])]} Tryz.f138:=⟨_,by conv=>lhs;cbv⟩
def aao:aU:=aiK.1
def aiL:agF {} Tryz.f139:=⟨_,by conv=>lhs;cbv⟩
def Wz:aU:=aiL.1
def aiM:agF {} Tryz.f140:=⟨_,by conv=>lhs;cbv⟩
def WB:aU:=aiM.1
def aiN:agF {} Tryz.f141:=⟨_,by conv=>lhs;cbv⟩
def aap:aU:=aiN.1
def aiO:agF {lits:=[(0,[1])]} Tryz.f142:=⟨_,by conv=>lhs;cbv⟩
def aaq:aU:=aiO.1
def aiP:agF {lits:=[(2,[0,0,0,0,0,0,7]),(7,[0,0,0,0,0,0,7]),(4,[0,0,0,0,0,0,7]),(8,[0,0,0,0,0,0,7])]} Tryz.f143:=⟨_,by conv=>lhs;cbv⟩
def aar:aU:=aiP.1
abbrev Ca:aB:=(agH FK.body).getD 0 .skip
def Cb:aB:=FK.body
abbrev Cc (g N:Nat):aB:=Ca.swap 67 (.qI 97 g N 30 (.tmp 46) (.tmp 66))
def Cd (g N:Nat):aB:=Cb.swap 67 (.qI 97 g N 30 (.tmp 46) (.tmp 66))
abbrev Ce (g N:Nat):aB:=Ca.swap 67 (.qJ 98 97 g N 30 407934748656 (.tmp 46) (.tmp 66))
def Cf (g N:Nat):aB:=Cb.swap 67 (.qJ 98 97 g N 30 407934748656 (.tmp 46) (.tmp 66))
def FL:List (Nat×aU):=[(310,Sy),(311,SA),(312,SC),(315,SE),(316,SG),(317,aaa),(319,SJ),(320,aab),(321,SM),(322,SO),(324,SQ),(325,FK),(326,SU),(327,SW),(328,SY),(329,S4),(330,S6),(331,aac),(85,f85),(332,S9),(334,Tb),(93,f93),(335,Td),(336,Tf),(337,Ti),(338,Tk),(339,Tm),(340,To),(341,Tq),(342,Ts),(343,Tu),(344,Tw),(345,Ty),(346,TA),(347,TC),(348,TE),(349,TG),(350,TI),(351,TK),(352,TM),(353,TO),(354,TQ),(355,Oz),(356,TU),(357,TX),(358,TZ),(359,T5),(360,T7),(361,T9),(362,Ub),(363,Ud),(364,Uf),(365,Uh),(366,aaf),(368,Uk),(369,Um),(370,Uo),(371,Uq),(372,Us),(374,Uu),(375,Uw),(376,Uy),(377,UA),(378,UC),(379,UE),(380,UG),(381,UI),(382,UK),(383,UM),(384,UO),(385,UQ),(386,US),(387,UU),(388,UX),(389,UZ),(390,U1),(391,U3),(392,U5),(393,U7),(394,U9),(395,Vc),(396,Ve),(226,Vg),(397,Vi),(398,Vk),(399,Vm),(400,aag),(401,Vp),(402,Vr),(259,Vt),(403,Vv),(404,Vx),(405,Vz),(406,VB),(408,VD),(409,VF),(410,VH),(411,VJ),(412,VL),(413,VN),(414,VP),(415,VR),(416,VT),(417,VV),(418,VX),(419,VZ),(420,V1),(257,V3),(258,V5),(421,V7),(422,aah),(423,aai),(280,Wb),(424,Wd),(425,Wf),(426,Wh),(427,Wj),(428,Wl),(429,Wn),(430,Wp),(279,Wr),(431,aaj),(432,aak),(433,aal),(434,aam),(435,aan),(436,aao),(437,Wz),(438,WB),(439,aap),(440,aaq),(441,aar)]
def Cg:List (Nat× (List V→Option iE)):=[(373,nG 4 2872193639704),(407,nG 1 8278675785407)]
def Ch:List (Nat× (List V→Option (List (List V)))):=[]
def E0:Env:=Sg FL Cg [] Ch
def E:Env:=Sg FL ((325,Fx)::Cg) [] Ch
theorem aas:E.fn 310=some Sy:=rfl
theorem aat (bL:List V):E.ext 310 bL=none:=rfl
theorem aau:E.fn 311=some SA:=rfl
theorem aav (bL:List V):E.ext 311 bL=none:=rfl
theorem aaw:E.fn 312=some SC:=rfl
theorem aax (bL:List V):E.ext 312 bL=none:=rfl
theorem aay:E.fn 315=some SE:=rfl
theorem aaz (bL:List V):E.ext 315 bL=none:=rfl
theorem aaA:E.fn 316=some SG:=rfl
theorem aaB (bL:List V):E.ext 316 bL=none:=rfl
theorem Q7:E.fn 319=some SJ:=rfl
theorem Q8 (bL:List V):E.ext 319 bL=none:=rfl
theorem kE:E.fn 321=some SM:=rfl
theorem kF (bL:List V):E.ext 321 bL=none:=rfl
theorem aaC:E.fn 322=some SO:=rfl
theorem aaD (bL:List V):E.ext 322 bL=none:=rfl
theorem aaE:E.fn 324=some SQ:=rfl
theorem aaF (bL:List V):E.ext 324 bL=none:=rfl
theorem wC:E.fn 325=some FK:=rfl
theorem wD {bL:List V} (h:Fx bL=none):E.ext 325 bL=none:=h
theorem aaG:E.fn 326=some SU:=rfl
theorem aaH (bL:List V):E.ext 326 bL=none:=rfl
theorem Q9:E.fn 327=some SW:=rfl
theorem Ra (bL:List V):E.ext 327 bL=none:=rfl
theorem Rb:E.fn 328=some SY:=rfl
theorem Rc (bL:List V):E.ext 328 bL=none:=rfl
theorem Rd:E.fn 329=some S4:=rfl
theorem Re (bL:List V):E.ext 329 bL=none:=rfl
theorem aaI:E.fn 330=some S6:=rfl
theorem aaJ (bL:List V):E.ext 330 bL=none:=rfl
theorem afs:E.fn 85=some f85:=rfl
theorem aft (bL:List V):E.ext 85 bL=none:=rfl
theorem aaK:E.fn 332=some S9:=rfl
theorem aaL (bL:List V):E.ext 332 bL=none:=rfl
theorem Zg:E.fn 334=some Tb:=rfl
theorem Zh (bL:List V):E.ext 334 bL=none:=rfl
theorem afq:E.fn 93=some f93:=rfl
theorem afr (bL:List V):E.ext 93 bL=none:=rfl
theorem Y6:E.fn 335=some Td:=rfl
theorem Y7 (bL:List V):E.ext 335 bL=none:=rfl
theorem Za:E.fn 336=some Tf:=rfl
theorem Zb (bL:List V):E.ext 336 bL=none:=rfl
theorem ZM:E.fn 337=some Ti:=rfl
theorem ZN (bL:List V):E.ext 337 bL=none:=rfl
theorem Z8:E.fn 338=some Tk:=rfl
theorem Z9 (bL:List V):E.ext 338 bL=none:=rfl
theorem Rf:E.fn 339=some Tm:=rfl
theorem Rg (bL:List V):E.ext 339 bL=none:=rfl
theorem tX:E.fn 340=some To:=rfl
theorem tY (bL:List V):E.ext 340 bL=none:=rfl
theorem Z6:E.fn 341=some Tq:=rfl
theorem Z7 (bL:List V):E.ext 341 bL=none:=rfl
theorem rI:E.fn 342=some Ts:=rfl
theorem rJ (bL:List V):E.ext 342 bL=none:=rfl
theorem Zq:E.fn 343=some Tu:=rfl
theorem Zr (bL:List V):E.ext 343 bL=none:=rfl
theorem wE:E.fn 344=some Tw:=rfl
theorem wF (bL:List V):E.ext 344 bL=none:=rfl
theorem He:E.fn 345=some Ty:=rfl
theorem Hf (bL:List V):E.ext 345 bL=none:=rfl
theorem Y2:E.fn 346=some TA:=rfl
theorem Y3 (bL:List V):E.ext 346 bL=none:=rfl
theorem Hg:E.fn 347=some TC:=rfl
theorem Hh (bL:List V):E.ext 347 bL=none:=rfl
theorem KT:E.fn 348=some TE:=rfl
theorem KU (bL:List V):E.ext 348 bL=none:=rfl
theorem Y4:E.fn 349=some TG:=rfl
theorem Y5 (bL:List V):E.ext 349 bL=none:=rfl
theorem KV:E.fn 350=some TI:=rfl
theorem KW (bL:List V):E.ext 350 bL=none:=rfl
theorem Q1:E.fn 351=some TK:=rfl
theorem Q2 (bL:List V):E.ext 351 bL=none:=rfl
theorem aaM:E.fn 352=some TM:=rfl
theorem aaN (bL:List V):E.ext 352 bL=none:=rfl
theorem QO:E.fn 353=some TO:=rfl
theorem QP (bL:List V):E.ext 353 bL=none:=rfl
theorem DF:E.fn 354=some TQ:=rfl
theorem DG (bL:List V):E.ext 354 bL=none:=rfl
theorem aaO:E.fn 355=some Oz:=rfl
theorem aaP (bL:List V):E.ext 355 bL=none:=rfl
theorem DH:E.fn 356=some TU:=rfl
theorem DI (bL:List V):E.ext 356 bL=none:=rfl
theorem tZ:E.fn 357=some TX:=rfl
theorem ua (bL:List V):E.ext 357 bL=none:=rfl
theorem aaQ:E.fn 358=some TZ:=rfl
theorem aaR (bL:List V):E.ext 358 bL=none:=rfl
theorem aaS:E.fn 359=some T5:=rfl
theorem aaT (bL:List V):E.ext 359 bL=none:=rfl
theorem aaU:E.fn 360=some T7:=rfl
theorem aaV (bL:List V):E.ext 360 bL=none:=rfl
theorem aaW:E.fn 361=some T9:=rfl
theorem aaX (bL:List V):E.ext 361 bL=none:=rfl
theorem aaY:E.fn 362=some Ub:=rfl
theorem aaZ (bL:List V):E.ext 362 bL=none:=rfl
theorem Rh:E.fn 363=some Ud:=rfl
theorem Ri (bL:List V):E.ext 363 bL=none:=rfl
theorem Hi:E.fn 364=some Uf:=rfl
theorem Hj (bL:List V):E.ext 364 bL=none:=rfl
theorem aa0:E.fn 365=some Uh:=rfl
theorem aa1 (bL:List V):E.ext 365 bL=none:=rfl
theorem Zt:E.fn 368=some Uk:=rfl
theorem Zu (bL:List V):E.ext 368 bL=none:=rfl
theorem Y8:E.fn 369=some Um:=rfl
theorem Y9 (bL:List V):E.ext 369 bL=none:=rfl
theorem Ze:E.fn 370=some Uo:=rfl
theorem Zf (bL:List V):E.ext 370 bL=none:=rfl
theorem AQ:E.fn 371=some Uq:=rfl
theorem AR (bL:List V):E.ext 371 bL=none:=rfl
theorem aa2:E.fn 372=some Us:=rfl
theorem aa3 (bL:List V):E.ext 372 bL=none:=rfl
theorem aa4:E.fn 374=some Uu:=rfl
theorem aa5 (bL:List V):E.ext 374 bL=none:=rfl
theorem aa6:E.fn 375=some Uw:=rfl
theorem aa7 (bL:List V):E.ext 375 bL=none:=rfl
theorem Rj:E.fn 376=some Uy:=rfl
theorem Rk (bL:List V):E.ext 376 bL=none:=rfl
theorem aa8:E.fn 377=some UA:=rfl
theorem aa9 (bL:List V):E.ext 377 bL=none:=rfl
theorem Hk:E.fn 378=some UC:=rfl
theorem Hl (bL:List V):E.ext 378 bL=none:=rfl
theorem aba:E.fn 379=some UE:=rfl
theorem abb (bL:List V):E.ext 379 bL=none:=rfl
theorem abc:E.fn 380=some UG:=rfl
theorem abd (bL:List V):E.ext 380 bL=none:=rfl
theorem abe:E.fn 381=some UI:=rfl
theorem abf (bL:List V):E.ext 381 bL=none:=rfl
theorem Zc:E.fn 382=some UK:=rfl
theorem Zd (bL:List V):E.ext 382 bL=none:=rfl
theorem AO:E.fn 383=some UM:=rfl
theorem AP (bL:List V):E.ext 383 bL=none:=rfl
theorem Rl:E.fn 384=some UO:=rfl
theorem Rm (bL:List V):E.ext 384 bL=none:=rfl
theorem KX:E.fn 385=some UQ:=rfl
theorem KY (bL:List V):E.ext 385 bL=none:=rfl
theorem abg:E.fn 386=some US:=rfl
theorem abh (bL:List V):E.ext 386 bL=none:=rfl
theorem Hm:E.fn 387=some UU:=rfl
theorem Hn (bL:List V):E.ext 387 bL=none:=rfl
theorem AS:E.fn 388=some UX:=rfl
theorem AT (bL:List V):E.ext 388 bL=none:=rfl
theorem ZD:E.fn 389=some UZ:=rfl
theorem ZE (bL:List V):E.ext 389 bL=none:=rfl
theorem QM:E.fn 390=some U1:=rfl
theorem QN (bL:List V):E.ext 390 bL=none:=rfl
theorem G2:E.fn 391=some U3:=rfl
theorem G3 (bL:List V):E.ext 391 bL=none:=rfl
theorem ju:E.fn 392=some U5:=rfl
theorem jv (bL:List V):E.ext 392 bL=none:=rfl
theorem QQ:E.fn 393=some U7:=rfl
theorem QR (bL:List V):E.ext 393 bL=none:=rfl
theorem abi:E.fn 394=some U9:=rfl
theorem abj (bL:List V):E.ext 394 bL=none:=rfl
theorem abk:E.fn 395=some Vc:=rfl
theorem abl (bL:List V):E.ext 395 bL=none:=rfl
theorem Rn:E.fn 396=some Ve:=rfl
theorem Ro (bL:List V):E.ext 396 bL=none:=rfl
theorem Rp:E.fn 226=some Vg:=rfl
theorem Rq (bL:List V):E.ext 226 bL=none:=rfl
theorem abm:E.fn 397=some Vi:=rfl
theorem abn (bL:List V):E.ext 397 bL=none:=rfl
theorem abo:E.fn 398=some Vk:=rfl
theorem abp (bL:List V):E.ext 398 bL=none:=rfl
theorem abq:E.fn 399=some Vm:=rfl
theorem abr (bL:List V):E.ext 399 bL=none:=rfl
theorem ZO:E.fn 401=some Vp:=rfl
theorem ZP (bL:List V):E.ext 401 bL=none:=rfl
theorem ZS:E.fn 402=some Vr:=rfl
theorem ZT (bL:List V):E.ext 402 bL=none:=rfl
theorem YY:E.fn 259=some Vt:=rfl
theorem YZ (bL:List V):E.ext 259 bL=none:=rfl
theorem ZQ:E.fn 403=some Vv:=rfl
theorem ZR (bL:List V):E.ext 403 bL=none:=rfl
theorem ZJ:E.fn 404=some Vx:=rfl
theorem ZK (bL:List V):E.ext 404 bL=none:=rfl
theorem Q3:E.fn 405=some Vz:=rfl
theorem Q4 (bL:List V):E.ext 405 bL=none:=rfl
theorem abt:E.fn 406=some VB:=rfl
theorem abu (bL:List V):E.ext 406 bL=none:=rfl
theorem abv:E.fn 408=some VD:=rfl
theorem abw (bL:List V):E.ext 408 bL=none:=rfl
theorem abx:E.fn 409=some VF:=rfl
theorem aby (bL:List V):E.ext 409 bL=none:=rfl
theorem Ho:E.fn 410=some VH:=rfl
theorem Hp (bL:List V):E.ext 410 bL=none:=rfl
theorem abz:E.fn 411=some VJ:=rfl
theorem abA (bL:List V):E.ext 411 bL=none:=rfl
theorem abB:E.fn 412=some VL:=rfl
theorem abC (bL:List V):E.ext 412 bL=none:=rfl
theorem abD:E.fn 413=some VN:=rfl
theorem abE (bL:List V):E.ext 413 bL=none:=rfl
theorem abF:E.fn 414=some VP:=rfl
theorem abG (bL:List V):E.ext 414 bL=none:=rfl
theorem Zz:E.fn 415=some VR:=rfl
theorem ZA (bL:List V):E.ext 415 bL=none:=rfl
theorem abH:E.fn 416=some VT:=rfl
theorem abI (bL:List V):E.ext 416 bL=none:=rfl
theorem Rr:E.fn 417=some VV:=rfl
theorem Rs (bL:List V):E.ext 417 bL=none:=rfl
theorem Zv:E.fn 418=some VX:=rfl
theorem Zw (bL:List V):E.ext 418 bL=none:=rfl
theorem Rt:E.fn 419=some VZ:=rfl
theorem Ru (bL:List V):E.ext 419 bL=none:=rfl
theorem abJ:E.fn 420=some V1:=rfl
theorem abK (bL:List V):E.ext 420 bL=none:=rfl
theorem abL:E.fn 257=some V3:=rfl
theorem abM (bL:List V):E.ext 257 bL=none:=rfl
theorem abN:E.fn 258=some V5:=rfl
theorem abO (bL:List V):E.ext 258 bL=none:=rfl
theorem Rv:E.fn 421=some V7:=rfl
theorem Rw (bL:List V):E.ext 421 bL=none:=rfl
theorem QI:E.fn 280=some Wb:=rfl
theorem QJ (bL:List V):E.ext 280 bL=none:=rfl
theorem ZH:E.fn 424=some Wd:=rfl
theorem ZI (bL:List V):E.ext 424 bL=none:=rfl
theorem ZB:E.fn 425=some Wf:=rfl
theorem ZC (bL:List V):E.ext 425 bL=none:=rfl
theorem Y0:E.fn 426=some Wh:=rfl
theorem Y1 (bL:List V):E.ext 426 bL=none:=rfl
theorem abP:E.fn 427=some Wj:=rfl
theorem abQ (bL:List V):E.ext 427 bL=none:=rfl
theorem Zx:E.fn 428=some Wl:=rfl
theorem Zy (bL:List V):E.ext 428 bL=none:=rfl
theorem abR:E.fn 429=some Wn:=rfl
theorem abS (bL:List V):E.ext 429 bL=none:=rfl
theorem abT:E.fn 430=some Wp:=rfl
theorem abU (bL:List V):E.ext 430 bL=none:=rfl
theorem Rx:E.fn 279=some Wr:=rfl
theorem Ry (bL:List V):E.ext 279 bL=none:=rfl
theorem ZF:E.fn 437=some Wz:=rfl
theorem ZG (bL:List V):E.ext 437 bL=none:=rfl
theorem QK:E.fn 438=some WB:=rfl
theorem QL (bL:List V):E.ext 438 bL=none:=rfl
theorem Rz (bL:List V):E.ext 373 bL=nG 4 2872193639704 bL:=rfl
theorem abV (bL:List V):E.ext 407 bL=nG 1 8278675785407 bL:=rfl
end Go.AM
