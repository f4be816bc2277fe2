/-
  Texts of the proof, joined by program: AmFns. Own work.
-/
import Derived.Test.YtkdfnbahehdhmaaGreatBase
import Derived.Test.YtkdfnbahehdhmaaGreatOpsA
import Derived.Test.YtkdfnbahehdhmaaGreatProg
set_option linter.unusedSimpArgs false
set_option linter.unusedVariables false
set_option maxRecDepth 100000
namespace Go.AM
open Go.Proofs
def Dy:List Nat:=[0,1,2,518,519,520,521,522,79,523,524,525,526,89,527,528,10,529,530,531,532,165,533,77,92,93,94,95,534,28,29,30,31,32,535,536,537,538,539,540,144,541,125,126,219,37,27,542,161,127,543,544,545,546,83,84,85,86,87,130,131,547,548,549,550,179,551,181,182,183,184,552,553,554,555,556,41,216,557,558,40,22,23,113,114,115,116,117,118,119,120,121,122,559,560,561,562,563,187,220,189,221,222,564,565,566,186,33,52,567,568,569,570,571,572,573,574,50,51,36,162,163,164,575,576,577,578,579,580,581,224,227,251,252,253,254,255,175,223,429,430,582,54,55,583,584,198,199,200,201,202,282,271,259,260,276,277,278,585,235,236,237,238,283,284,285,280,287,288,289,290,291,292,293,294,295,296,297,270,298,299,300,301,302,303,304,305,59,60,61,62,63,64,65,66,67,68,69,70,71,72,73,74]
def Dz:List (Nat×Nat):=[(9,9)]
noncomputable def X0:TrEnv:=⟨Tryz.prog,fun F=>Dy[F]?,fun t=> (Dz.find? (·.1==t)).map (·.2)⟩
abbrev ac9 (h:Hints) (F:Func):Type:={f:aF // az X0 h F=some f}
def ada:al→List al
 | .seq a b=>ada a++ada b
 | .block _ a=>ada a
 | .scope a=>ada a
 | .cond _ a b=>ada a++ada b
 | .loop a=>ada a++[a]
 | .kF _ _ _ a=>ada a
 | _=> []
def ahy:ac9 {lits:=[(8,[4,5,8,7]),(10,[4,5,8,7])]} Tryz.f4:=⟨_,by conv=>lhs;cbv⟩
def agL:aF:=ahy.1
def ade:ac9 {lits:=[(1,[4,5,8,7]),(3,[4,5,8,7])],abx:=[(5,55,97)]} Tryz.f6:=⟨_,by conv=>lhs;cbv⟩
def Na:aF:=ade.1
def adf:ac9 {lits:=[(2,[4,5,8,7])]} Tryz.f7:=⟨_,by conv=>lhs;cbv⟩
def Nc:aF:=adf.1
def c79:ac9 {bK:=[11,38],name:=[(212,100),(333,101),(371,101)],lits:=[(4,[4,5,8,7]),(5,[4,5,0,0]),(210,[0,2,0,0,0,0,0,0]),(373,[4,5,8,7])]} Tryz.f8:=⟨_,by conv=>lhs;cbv⟩
def f79:aF:=c79.1
def adh:ac9 {bK:=[31,34,37,40],lits:=[(6,[4,5,8,7]),(20,[4,5,8,7]),(41,[4,5,8,7]),(11,[4,5,8,7])]} Tryz.f10:=⟨_,by conv=>lhs;cbv⟩
def Ni:aF:=adh.1
def adj:ac9 {} Tryz.f12:=⟨_,by conv=>lhs;cbv⟩
def Nm:aF:=adj.1
def adk:ac9 {} Tryz.f14:=⟨_,by conv=>lhs;cbv⟩
def Ns:aF:=adk.1
def adl:ac9 {} Tryz.f15:=⟨_,by conv=>lhs;cbv⟩
def Nu:aF:=adl.1
def c10:ac9 {} Tryz.f16:=⟨_,by conv=>lhs;cbv⟩
def f10:aF:=c10.1
def adm:ac9 {name:=[(63,97),(76,161)],lits:=[(7,[0,2,0,0])],abw:=[(4,81,5),(5,97,5),(9,161,5)],abx:=[(5,63,97),(9,76,161)]} Tryz.f17:=⟨_,by conv=>lhs;cbv⟩
def TA:aF:=adm.1
def ahz:ac9 {name:=[(74,145)],lits:=[(4,[5]),(7,[0,2,0,0])],abw:=[(5,97,5),(8,145,5)],abx:=[(8,74,145),(5,102,97)]} Tryz.f18:=⟨_,by conv=>lhs;cbv⟩
def aha:aF:=ahz.1
def adn:ac9 {lits:=[(0,[4,5,8,7]),(1,[4,5,8,7]),(4,[0,2,0,0]),(7,[0,2,0,0]),(10,[0,2,0,0])]} Tryz.f20:=⟨_,by conv=>lhs;cbv⟩
def TB:aF:=adn.1
def ado:ac9 {} Tryz.f21:=⟨_,by conv=>lhs;cbv⟩
def f165:aF:=ado.1
def adp:ac9 {name:=[(24,65)],abw:=[(2,49,2),(3,65,2)],abx:=[(3,24,65)]} Tryz.f22:=⟨_,by conv=>lhs;cbv⟩
def TC:aF:=adp.1
def c77:ac9 {bK:=[13,67,72],lits:=[(2,[4,5,8,7]),(3,[4,5,8,7]),(20,[1,0])]} Tryz.f23:=⟨_,by conv=>lhs;cbv⟩
def f77:aF:=c77.1
def c92:ac9 {name:=[(37,66),(59,68)],lits:=[(2,[4,5,8,7]),(16,[0,5,0,7]),(3,[0,5,0,7]),(5,[0,2,0,0]),(7,[0,2,0,0,0,0,0,0])]} Tryz.f24:=⟨_,by conv=>lhs;cbv⟩
def f92:aF:=c92.1
def c93:ac9 {} Tryz.f25:=⟨_,by conv=>lhs;cbv⟩
def f93:aF:=c93.1
def c94:ac9 {name:=[(36,145),(214,193),(240,145)],lits:=[(10,[0,2,0,0]),(238,[0,2,0,0])],abw:=[(6,113,4),(7,129,5),(8,145,4)],abx:=[(8,36,145),(11,39,193),(8,188,145),(11,214,193),(8,240,145)],dyn:=[(28,9)],cD:=[35,36,188],deep:=[6]} Tryz.f26:=⟨_,by conv=>lhs;cbv⟩
def f94:aF:=c94.1
def c95:ac9 {} Tryz.f27:=⟨_,by conv=>lhs;cbv⟩
def f95:aF:=c95.1
def adq:ac9 {} Tryz.f28:=⟨_,by conv=>lhs;cbv⟩
def NH:aF:=adq.1
def adr:ac9 {bK:=[12],lits:=[(4,[2])]} Tryz.f34:=⟨_,by conv=>lhs;cbv⟩
def NJ:aF:=adr.1
def ads:ac9 {lits:=[(8,[0,2,0,0])]} Tryz.f35:=⟨_,by conv=>lhs;cbv⟩
def NL:aF:=ads.1
def adu:ac9 {} Tryz.f37:=⟨_,by conv=>lhs;cbv⟩
def NP:aF:=adu.1
def adv:ac9 {lits:=[(4,[2])]} Tryz.f38:=⟨_,by conv=>lhs;cbv⟩
def NR:aF:=adv.1
def adw:ac9 {} Tryz.f39:=⟨_,by conv=>lhs;cbv⟩
def NT:aF:=adw.1
def adx:ac9 {} Tryz.f40:=⟨_,by conv=>lhs;cbv⟩
def f144:aF:=adx.1
def ady:ac9 {} Tryz.f41:=⟨_,by conv=>lhs;cbv⟩
def NW:aF:=ady.1
def adB:ac9 {} Tryz.f44:=⟨_,by conv=>lhs;cbv⟩
def N0:aF:=adB.1
def c37:ac9 {} Tryz.f45:=⟨_,by conv=>lhs;cbv⟩
def f37:aF:=c37.1
def c27:ac9 {} Tryz.f46:=⟨_,by conv=>lhs;cbv⟩
def f27:aF:=c27.1
def adC:ac9 {} Tryz.f47:=⟨_,by conv=>lhs;cbv⟩
def N4:aF:=adC.1
def adD:ac9 {} Tryz.f48:=⟨_,by conv=>lhs;cbv⟩
def f161:aF:=adD.1
def adE:ac9 {} Tryz.f49:=⟨_,by conv=>lhs;cbv⟩
def f127:aF:=adE.1
def adF:ac9 {} Tryz.f50:=⟨_,by conv=>lhs;cbv⟩
def N8:aF:=adF.1
def adG:ac9 {ux:=[some 5,none]} Tryz.f51:=⟨_,by conv=>lhs;cbv⟩
def TK:aF:=adG.1
def adH:ac9 {} Tryz.f52:=⟨_,by conv=>lhs;cbv⟩
def TL:aF:=adH.1
def adI:ac9 {} Tryz.f53:=⟨_,by conv=>lhs;cbv⟩
def Od:aF:=adI.1
def c83:ac9 {bK:=[143,180,204,207],lits:=[(2,[4]),(3,[5]),(4,[1]),(5,[1]),(6,[1]),(40,[1,0]),(105,[1,0])],abw:=[(14,241,4)],abx:=[(14,143,241),(14,180,241),(14,204,241)]} Tryz.f54:=⟨_,by conv=>lhs;cbv⟩
def f83:aF:=c83.1
def c84:ac9 {lits:=[(4,[1])]} Tryz.f55:=⟨_,by conv=>lhs;cbv⟩
def f84:aF:=c84.1
def c85:ac9 {ux:=[some 2,none]} Tryz.f56:=⟨_,by conv=>lhs;cbv⟩
def f85:aF:=c85.1
def c86:ac9 {bK:=[31,50,61,69],lits:=[(2,[8]),(9,[1,0])],abw:=[(4,81,8)],abx:=[(4,31,81),(4,50,81),(4,61,81),(4,69,81)]} Tryz.f57:=⟨_,by conv=>lhs;cbv⟩
def f86:aF:=c86.1
def c87:ac9 {name:=[(86,113)],lits:=[(14,[1,0])],abw:=[(4,81,7),(6,113,7)],abx:=[(6,86,113)]} Tryz.f58:=⟨_,by conv=>lhs;cbv⟩
def f87:aF:=c87.1
def adJ:ac9 {lits:=[(2,[2])]} Tryz.f59:=⟨_,by conv=>lhs;cbv⟩
def f130:aF:=adJ.1
def adK:ac9 {name:=[(28,67)],lits:=[(2,[0,2,0,0]),(30,[0,2,0,0])]} Tryz.f60:=⟨_,by conv=>lhs;cbv⟩
def f131:aF:=adK.1
def adL:ac9 {ux:=[some 2,none,none],lits:=[(6,[2])]} Tryz.f61:=⟨_,by conv=>lhs;cbv⟩
def Ov:aF:=adL.1
def adM:ac9 {} Tryz.f62:=⟨_,by conv=>lhs;cbv⟩
def JD:aF:=adM.1
def adN:ac9 {} Tryz.f63:=⟨_,by conv=>lhs;cbv⟩
def JG:aF:=adN.1
def adO:ac9 {} Tryz.f64:=⟨_,by conv=>lhs;cbv⟩
def Oz:aF:=adO.1
def adP:ac9 {} Tryz.f65:=⟨_,by conv=>lhs;cbv⟩
def f179:aF:=adP.1
def adQ:ac9 {} Tryz.f66:=⟨_,by conv=>lhs;cbv⟩
def OC:aF:=adQ.1
def adR:ac9 {} Tryz.f67:=⟨_,by conv=>lhs;cbv⟩
def f181:aF:=adR.1
def adS:ac9 {aby:=[2]} Tryz.f68:=⟨_,by conv=>lhs;cbv⟩
def f182:aF:=adS.1
def adT:ac9 {} Tryz.f69:=⟨_,by conv=>lhs;cbv⟩
def f183:aF:=adT.1
def adU:ac9 {} Tryz.f70:=⟨_,by conv=>lhs;cbv⟩
def f184:aF:=adU.1
def adV:ac9 {aby:=[4]} Tryz.f71:=⟨_,by conv=>lhs;cbv⟩
def OI:aF:=adV.1
def adW:ac9 {} Tryz.f72:=⟨_,by conv=>lhs;cbv⟩
def JI:aF:=adW.1
def adX:ac9 {} Tryz.f73:=⟨_,by conv=>lhs;cbv⟩
def OL:aF:=adX.1
def adY:ac9 {} Tryz.f74:=⟨_,by conv=>lhs;cbv⟩
def ON:aF:=adY.1
def adZ:ac9 {} Tryz.f75:=⟨_,by conv=>lhs;cbv⟩
def OP:aF:=adZ.1
def c41:ac9 {} Tryz.f76:=⟨_,by conv=>lhs;cbv⟩
def f41:aF:=c41.1
def ad0:ac9 {} Tryz.f77:=⟨_,by conv=>lhs;cbv⟩
def OR:aF:=ad0.1
def ad1:ac9 {} Tryz.f78:=⟨_,by conv=>lhs;cbv⟩
def OT:aF:=ad1.1
def ad2:ac9 {ux:=[some 5,none,none,none,none]} Tryz.f79:=⟨_,by conv=>lhs;cbv⟩
def TR:aF:=ad2.1
def c40:ac9 {} Tryz.f80:=⟨_,by conv=>lhs;cbv⟩
def f40:aF:=c40.1
def c22:ac9 {} Tryz.f81:=⟨_,by conv=>lhs;cbv⟩
def f22:aF:=c22.1
def c23:ac9 {} Tryz.f82:=⟨_,by conv=>lhs;cbv⟩
def f23:aF:=c23.1
def ad3:ac9 {ux:=[some 4,none,none,none,some 2],name:=[(31,17)],lits:=[(22,[0,2,0,0]),(11,[0,2,0,0])],abw:=[(10,177,4)]} Tryz.f83:=⟨_,by conv=>lhs;cbv⟩
def f113:aF:=ad3.1
def ad4:ac9 {ux:=[none,none,some 2],name:=[(71,129),(75,129)],lits:=[(6,[2])],abx:=[(7,14,129),(7,71,129)]} Tryz.f84:=⟨_,by conv=>lhs;cbv⟩
def f114:aF:=ad4.1
def ad5:ac9 {} Tryz.f85:=⟨_,by conv=>lhs;cbv⟩
def f115:aF:=ad5.1
def ad6:ac9 {} Tryz.f86:=⟨_,by conv=>lhs;cbv⟩
def f116:aF:=ad6.1
def ad7:ac9 {ux:=[some 4,none,none,some 2],bK:=[95],lits:=[(8,[4])],abx:=[(10,50,177),(10,90,177)]} Tryz.f87:=⟨_,by conv=>lhs;cbv⟩
def f117:aF:=ad7.1
def ad8:ac9 {name:=[(52,97)],lits:=[(3,[1])],abw:=[(2,49,5),(5,97,5)],abx:=[(3,25,65),(3,38,65),(5,52,97)]} Tryz.f88:=⟨_,by conv=>lhs;cbv⟩
def f118:aF:=ad8.1
def ad9:ac9 {ux:=[some 8,none,none,none,some 2],name:=[(84,195),(90,195),(122,17)],lits:=[(10,[8])]} Tryz.f89:=⟨_,by conv=>lhs;cbv⟩
def f119:aF:=ad9.1
def aea:ac9 {} Tryz.f90:=⟨_,by conv=>lhs;cbv⟩
def f120:aF:=aea.1
def aeb:ac9 {} Tryz.f91:=⟨_,by conv=>lhs;cbv⟩
def f121:aF:=aeb.1
def aec:ac9 {} Tryz.f92:=⟨_,by conv=>lhs;cbv⟩
def f122:aF:=aec.1
def aed:ac9 {} Tryz.f93:=⟨_,by conv=>lhs;cbv⟩
def Pa:aF:=aed.1
def aee:ac9 {} Tryz.f94:=⟨_,by conv=>lhs;cbv⟩
def Pc:aF:=aee.1
def aef:ac9 {} Tryz.f95:=⟨_,by conv=>lhs;cbv⟩
def Pe:aF:=aef.1
def aeg:ac9 {} Tryz.f96:=⟨_,by conv=>lhs;cbv⟩
def Pg:aF:=aeg.1
def aeh:ac9 {} Tryz.f97:=⟨_,by conv=>lhs;cbv⟩
def Pj:aF:=aeh.1
def aei:ac9 {} Tryz.f98:=⟨_,by conv=>lhs;cbv⟩
def f187:aF:=aei.1
def aej:ac9 {} Tryz.f99:=⟨_,by conv=>lhs;cbv⟩
def Pm:aF:=aej.1
def aek:ac9 {} Tryz.f100:=⟨_,by conv=>lhs;cbv⟩
def f189:aF:=aek.1
def ael:ac9 {abx:=[(11,64,193),(12,67,209)]} Tryz.f102:=⟨_,by conv=>lhs;cbv⟩
def Pp:aF:=ael.1
def aem:ac9 {abx:=[(9,43,161)]} Tryz.f104:=⟨_,by conv=>lhs;cbv⟩
def Pr:aF:=aem.1
def aen:ac9 {} Tryz.f105:=⟨_,by conv=>lhs;cbv⟩
def Pu:aF:=aen.1
def aeo:ac9 {} Tryz.f106:=⟨_,by conv=>lhs;cbv⟩
def f186:aF:=aeo.1
def c33:ac9 {} Tryz.f107:=⟨_,by conv=>lhs;cbv⟩
def f33:aF:=c33.1
def aep:ac9 {ux:=[some 5,none,none,none]} Tryz.f109:=⟨_,by conv=>lhs;cbv⟩
def TY:aF:=aep.1
def ahA:ac9 {ux:=[some 5,none,none,none]} Tryz.f110:=⟨_,by conv=>lhs;cbv⟩
def ahB:aF:=ahA.1
def ahC:ac9 {ux:=[some 5,none,none,none]} Tryz.f111:=⟨_,by conv=>lhs;cbv⟩
def ahD:aF:=ahC.1
def ahE:ac9 {} Tryz.f112:=⟨_,by conv=>lhs;cbv⟩
def ahF:aF:=ahE.1
def ahG:ac9 {ux:=[some 5,none,none,none]} Tryz.f113:=⟨_,by conv=>lhs;cbv⟩
def ahH:aF:=ahG.1
def ahI:ac9 {ux:=[some 5,none,none,none]} Tryz.f114:=⟨_,by conv=>lhs;cbv⟩
def ahJ:aF:=ahI.1
def ahK:ac9 {ux:=[some 5,none,none,none,none]} Tryz.f115:=⟨_,by conv=>lhs;cbv⟩
def aiD:aF:=ahK.1
def ahL:ac9 {ux:=[some 5,none,none,none,none]} Tryz.f116:=⟨_,by conv=>lhs;cbv⟩
def agM:aF:=ahL.1
def c50:ac9 {} Tryz.f117:=⟨_,by conv=>lhs;cbv⟩
def f50:aF:=c50.1
def c51:ac9 {} Tryz.f118:=⟨_,by conv=>lhs;cbv⟩
def f51:aF:=c51.1
def c36:ac9 {} Tryz.f119:=⟨_,by conv=>lhs;cbv⟩
def f36:aF:=c36.1
def aeq:ac9 {name:=[(43,113)],lits:=[(4,[1])],abx:=[(6,39,113)]} Tryz.f120:=⟨_,by conv=>lhs;cbv⟩
def f162:aF:=aeq.1
def aer:ac9 {} Tryz.f121:=⟨_,by conv=>lhs;cbv⟩
def f163:aF:=aer.1
def aes:ac9 {name:=[(51,99),(56,65)],abw:=[(2,49,4),(3,65,4)],abx:=[(3,56,65)]} Tryz.f122:=⟨_,by conv=>lhs;cbv⟩
def f164:aF:=aes.1
def aet:ac9 {} Tryz.f123:=⟨_,by conv=>lhs;cbv⟩
def PD:aF:=aet.1
def aeu:ac9 {} Tryz.f124:=⟨_,by conv=>lhs;cbv⟩
def PF:aF:=aeu.1
def aev:ac9 {} Tryz.f125:=⟨_,by conv=>lhs;cbv⟩
def PH:aF:=aev.1
def aew:ac9 {} Tryz.f126:=⟨_,by conv=>lhs;cbv⟩
def PJ:aF:=aew.1
def aex:ac9 {} Tryz.f127:=⟨_,by conv=>lhs;cbv⟩
def PL:aF:=aex.1
def aey:ac9 {} Tryz.f128:=⟨_,by conv=>lhs;cbv⟩
def PN:aF:=aey.1
def aez:ac9 {} Tryz.f129:=⟨_,by conv=>lhs;cbv⟩
def PQ:aF:=aez.1
def aeA:ac9 {} Tryz.f130:=⟨_,by conv=>lhs;cbv⟩
def PS:aF:=aeA.1
def aeB:ac9 {} Tryz.f131:=⟨_,by conv=>lhs;cbv⟩
def PU:aF:=aeB.1
def aeC:ac9 {} Tryz.f132:=⟨_,by conv=>lhs;cbv⟩
def PW:aF:=aeC.1
def aeD:ac9 {} Tryz.f133:=⟨_,by conv=>lhs;cbv⟩
def PY:aF:=aeD.1
def aeE:ac9 {ux:=[some 2,none]} Tryz.f134:=⟨_,by conv=>lhs;cbv⟩
def P0:aF:=aeE.1
def aeF:ac9 {} Tryz.f135:=⟨_,by conv=>lhs;cbv⟩
def P2:aF:=aeF.1
def aeG:ac9 {} Tryz.f136:=⟨_,by conv=>lhs;cbv⟩
def P4:aF:=aeG.1
def aeH:ac9 {} Tryz.f137:=⟨_,by conv=>lhs;cbv⟩
def f175:aF:=aeH.1
def aeI:ac9 {} Tryz.f138:=⟨_,by conv=>lhs;cbv⟩
def P7:aF:=aeI.1
def aeJ:ac9 {} Tryz.f139:=⟨_,by conv=>lhs;cbv⟩
def P9:aF:=aeJ.1
def aeK:ac9 {} Tryz.f140:=⟨_,by conv=>lhs;cbv⟩
def Qb:aF:=aeK.1
def ahM:ac9 {ux:=[some 5,none,none,none,none]} Tryz.f141:=⟨_,by conv=>lhs;cbv⟩
def ahN:aF:=ahM.1
def c54:ac9 {} Tryz.f142:=⟨_,by conv=>lhs;cbv⟩
def f54:aF:=c54.1
def c55:ac9 {ux:=[some 1]} Tryz.f143:=⟨_,by conv=>lhs;cbv⟩
def f55:aF:=c55.1
def ahO:ac9 {ux:=[none,none,some 1,none]} Tryz.f144:=⟨_,by conv=>lhs;cbv⟩
def ahP:aF:=ahO.1
def ahQ:ac9 {ux:=[none,none,none,none,some 1,none]} Tryz.f145:=⟨_,by conv=>lhs;cbv⟩
def ahR:aF:=ahQ.1
def aeL:ac9 {} Tryz.f146:=⟨_,by conv=>lhs;cbv⟩
def f198:aF:=aeL.1
def aeM:ac9 {} Tryz.f147:=⟨_,by conv=>lhs;cbv⟩
def f199:aF:=aeM.1
def aeN:ac9 {} Tryz.f148:=⟨_,by conv=>lhs;cbv⟩
def f200:aF:=aeN.1
def aeO:ac9 {} Tryz.f149:=⟨_,by conv=>lhs;cbv⟩
def f201:aF:=aeO.1
def aeP:ac9 {} Tryz.f150:=⟨_,by conv=>lhs;cbv⟩
def f202:aF:=aeP.1
def aeQ:ac9 {} Tryz.f151:=⟨_,by conv=>lhs;cbv⟩
def Qi:aF:=aeQ.1
def aeR:ac9 {} Tryz.f152:=⟨_,by conv=>lhs;cbv⟩
def Qk:aF:=aeR.1
def aeS:ac9 {} Tryz.f153:=⟨_,by conv=>lhs;cbv⟩
def Qm:aF:=aeS.1
def aeT:ac9 {} Tryz.f154:=⟨_,by conv=>lhs;cbv⟩
def Qo:aF:=aeT.1
def aeU:ac9 {} Tryz.f155:=⟨_,by conv=>lhs;cbv⟩
def Qq:aF:=aeU.1
def aeV:ac9 {} Tryz.f156:=⟨_,by conv=>lhs;cbv⟩
def Qs:aF:=aeV.1
def aeW:ac9 {ux:=[some 2,none,none,none,none]} Tryz.f157:=⟨_,by conv=>lhs;cbv⟩
def Qu:aF:=aeW.1
def ahS:ac9 {ux:=[none,none,none,some 1,none]} Tryz.f158:=⟨_,by conv=>lhs;cbv⟩
def ahT:aF:=ahS.1
def aeX:ac9 {} Tryz.f159:=⟨_,by conv=>lhs;cbv⟩
def Qw:aF:=aeX.1
def aeY:ac9 {} Tryz.f160:=⟨_,by conv=>lhs;cbv⟩
def Qy:aF:=aeY.1
def aeZ:ac9 {} Tryz.f161:=⟨_,by conv=>lhs;cbv⟩
def QA:aF:=aeZ.1
def ae1:ac9 {} Tryz.f162:=⟨_,by conv=>lhs;cbv⟩
def QC:aF:=ae1.1
def ae2:ac9 {} Tryz.f163:=⟨_,by conv=>lhs;cbv⟩
def QE:aF:=ae2.1
def ae3:ac9 {} Tryz.f164:=⟨_,by conv=>lhs;cbv⟩
def QG:aF:=ae3.1
def ae4:ac9 {} Tryz.f165:=⟨_,by conv=>lhs;cbv⟩
def QI:aF:=ae4.1
def ae5:ac9 {} Tryz.f166:=⟨_,by conv=>lhs;cbv⟩
def QK:aF:=ae5.1
def ae6:ac9 {} Tryz.f167:=⟨_,by conv=>lhs;cbv⟩
def QM:aF:=ae6.1
def ae7:ac9 {} Tryz.f168:=⟨_,by conv=>lhs;cbv⟩
def QO:aF:=ae7.1
def ae8:ac9 {} Tryz.f169:=⟨_,by conv=>lhs;cbv⟩
def QQ:aF:=ae8.1
def ae9:ac9 {ux:=[some 2,none,none,none]} Tryz.f170:=⟨_,by conv=>lhs;cbv⟩
def QS:aF:=ae9.1
def ahU:ac9 {ux:=[some 2,none,none,none]} Tryz.f171:=⟨_,by conv=>lhs;cbv⟩
def aiE:aF:=ahU.1
def ahV:ac9 {ux:=[some 2,none,none,none]} Tryz.f172:=⟨_,by conv=>lhs;cbv⟩
def aiF:aF:=ahV.1
def ahW:ac9 {} Tryz.f173:=⟨_,by conv=>lhs;cbv⟩
def aiG:aF:=ahW.1
def ahX:ac9 {ux:=[some 2,none,none,none]} Tryz.f174:=⟨_,by conv=>lhs;cbv⟩
def aiH:aF:=ahX.1
def ahY:ac9 {ux:=[some 2,none,none,none]} Tryz.f175:=⟨_,by conv=>lhs;cbv⟩
def aiI:aF:=ahY.1
def ahZ:ac9 {ux:=[some 2,none,none,none,none]} Tryz.f176:=⟨_,by conv=>lhs;cbv⟩
def aiJ:aF:=ahZ.1
def ah0:ac9 {ux:=[some 2,none,none,none,none]} Tryz.f177:=⟨_,by conv=>lhs;cbv⟩
def aiK:aF:=ah0.1
def afa:ac9 {} Tryz.f178:=⟨_,by conv=>lhs;cbv⟩
def QU:aF:=afa.1
def afb:ac9 {} Tryz.f179:=⟨_,by conv=>lhs;cbv⟩
def QW:aF:=afb.1
def afc:ac9 {} Tryz.f180:=⟨_,by conv=>lhs;cbv⟩
def QY:aF:=afc.1
def afd:ac9 {} Tryz.f181:=⟨_,by conv=>lhs;cbv⟩
def Q0:aF:=afd.1
def ah1:ac9 {ux:=[some 2,none,none,none,none]} Tryz.f182:=⟨_,by conv=>lhs;cbv⟩
def aiL:aF:=ah1.1
def ah2:ac9 {ux:=[none,none,some 1,none]} Tryz.f183:=⟨_,by conv=>lhs;cbv⟩
def aiM:aF:=ah2.1
def ah3:ac9 {ux:=[none,none,none,none,some 1,none]} Tryz.f184:=⟨_,by conv=>lhs;cbv⟩
def aiN:aF:=ah3.1
def afe:ac9 {} Tryz.f185:=⟨_,by conv=>lhs;cbv⟩
def Q3:aF:=afe.1
def ah4:ac9 {ux:=[none,none,none,some 1,none]} Tryz.f186:=⟨_,by conv=>lhs;cbv⟩
def aiO:aF:=ah4.1
abbrev agN:al:=(ada agL.body).getD 0 .skip
abbrev agO:al:=(ada agL.body).getD 1 .skip
abbrev Jj:al:=(ada TA.body).getD 0 .skip
abbrev agI:al:=(ada aha.body).getD 0 .skip
abbrev xX:al:=(ada f83.body).getD 1 .skip
abbrev Gl:al:=(ada f83.body).getD 3 .skip
abbrev Gm:al:=(ada f83.body).getD 5 .skip
def Gn:al:=f83.body
abbrev CS:al:=(ada JD.body).getD 0 .skip
abbrev CT:al:=(ada JG.body).getD 0 .skip
abbrev CU:al:=(ada JI.body).getD 0 .skip
abbrev CV:al:=(ada JI.body).getD 1 .skip
abbrev JK:al:=(ada TR.body).getD 0 .skip
abbrev agP:al:=(ada agM.body).getD 0 .skip
abbrev agQ:al:=(ada agM.body).getD 2 .skip
def Gp:List (Nat×aF):=[(519,agL),(521,Na),(522,Nc),(79,f79),(524,Ni),(526,Nm),(527,Ns),(528,Nu),(10,f10),(529,TA),(530,aha),(532,TB),(165,f165),(533,TC),(77,f77),(92,f92),(93,f93),(94,f94),(95,f95),(534,NH),(535,NJ),(536,NL),(538,NP),(539,NR),(540,NT),(144,f144),(541,NW),(219,N0),(37,f37),(27,f27),(542,N4),(161,f161),(127,f127),(543,N8),(544,TK),(545,TL),(546,Od),(83,f83),(84,f84),(85,f85),(86,f86),(87,f87),(130,f130),(131,f131),(547,Ov),(548,JD),(549,JG),(550,Oz),(179,f179),(551,OC),(181,f181),(182,f182),(183,f183),(184,f184),(552,OI),(553,JI),(554,OL),(555,ON),(556,OP),(41,f41),(216,OR),(557,OT),(558,TR),(40,f40),(22,f22),(23,f23),(113,f113),(114,f114),(115,f115),(116,f116),(117,f117),(118,f118),(119,f119),(120,f120),(121,f121),(122,f122),(559,Pa),(560,Pc),(561,Pe),(562,Pg),(563,Pj),(187,f187),(220,Pm),(189,f189),(222,Pp),(565,Pr),(566,Pu),(186,f186),(33,f33),(567,TY),(568,ahB),(569,ahD),(570,ahF),(571,ahH),(572,ahJ),(573,aiD),(574,agM),(50,f50),(51,f51),(36,f36),(162,f162),(163,f163),(164,f164),(575,PD),(576,PF),(577,PH),(578,PJ),(579,PL),(580,PN),(581,PQ),(224,PS),(227,PU),(251,PW),(252,PY),(253,P0),(254,P2),(255,P4),(175,f175),(223,P7),(429,P9),(430,Qb),(582,ahN),(54,f54),(55,f55),(583,ahP),(584,ahR),(198,f198),(199,f199),(200,f200),(201,f201),(202,f202),(282,Qi),(271,Qk),(259,Qm),(260,Qo),(276,Qq),(277,Qs),(278,Qu),(585,ahT),(235,Qw),(236,Qy),(237,QA),(238,QC),(283,QE),(284,QG),(285,QI),(280,QK),(287,QM),(288,QO),(289,QQ),(290,QS),(291,aiE),(292,aiF),(293,aiG),(294,aiH),(295,aiI),(296,aiJ),(297,aiK),(270,QU),(298,QW),(299,QY),(300,Q0),(301,aiL),(302,aiM),(303,aiN),(304,Q3),(305,aiO)]
def Gq:List (Nat× (List V→Option fL)):=[(28,fi 4 2872193639704),(29,fi 5 2469078742875),(30,fi 8 1450901941607),(31,fi 7 1927910799188),(32,fi 2 8278675785407),(52,y6)]
def CW:List (Nat× (List V→Option (List (List V)))):=[(221,CK),(564,F7)]
def E:Env:=SH Gp Gq [] CW
theorem ah5:E.fn 519=some agL:=rfl
theorem ah6 (as0:List V):E.ext 519 as0=none:=rfl
theorem T7:E.fn 521=some Na:=rfl
theorem T8 (as0:List V):E.ext 521 as0=none:=rfl
theorem T9:E.fn 522=some Nc:=rfl
theorem Ua (as0:List V):E.ext 522 as0=none:=rfl
theorem oE:E.fn 79=some f79:=rfl
theorem oF (as0:List V):E.ext 79 as0=none:=rfl
theorem Gr:E.fn 526=some Nm:=rfl
theorem Gs (as0:List V):E.ext 526 as0=none:=rfl
theorem LD:E.fn 527=some Ns:=rfl
theorem LF (as0:List V):E.ext 527 as0=none:=rfl
theorem Gt:E.fn 528=some Nu:=rfl
theorem Gu (as0:List V):E.ext 528 as0=none:=rfl
theorem aiP:E.fn 10=some f10:=rfl
theorem aiQ (as0:List V):E.ext 10 as0=none:=rfl
theorem aht:E.fn 529=some TA:=rfl
theorem ahu (as0:List V):E.ext 529 as0=none:=rfl
theorem ahv:E.fn 530=some aha:=rfl
theorem ahw (as0:List V):E.ext 530 as0=none:=rfl
theorem aaU:E.fn 77=some f77:=rfl
theorem aaV (as0:List V):E.ext 77 as0=none:=rfl
theorem aaW:E.fn 92=some f92:=rfl
theorem aaX (as0:List V):E.ext 92 as0=none:=rfl
theorem aaQ:E.fn 93=some f93:=rfl
theorem aaR (as0:List V):E.ext 93 as0=none:=rfl
theorem Bp:E.fn 94=some f94:=rfl
theorem Bq (as0:List V):E.ext 94 as0=none:=rfl
theorem aaY:E.fn 95=some f95:=rfl
theorem aaZ (as0:List V):E.ext 95 as0=none:=rfl
theorem Gv:E.fn 534=some NH:=rfl
theorem Gw (as0:List V):E.ext 534 as0=none:=rfl
theorem Uf:E.fn 535=some NJ:=rfl
theorem Ug (as0:List V):E.ext 535 as0=none:=rfl
theorem Gx:E.fn 536=some NL:=rfl
theorem Gy (as0:List V):E.ext 536 as0=none:=rfl
theorem Uj:E.fn 538=some NP:=rfl
theorem Uk (as0:List V):E.ext 538 as0=none:=rfl
theorem Ul:E.fn 539=some NR:=rfl
theorem Um (as0:List V):E.ext 539 as0=none:=rfl
theorem LG:E.fn 540=some NT:=rfl
theorem LH (as0:List V):E.ext 540 as0=none:=rfl
theorem Gz:E.fn 144=some f144:=rfl
theorem GA (as0:List V):E.ext 144 as0=none:=rfl
theorem Un:E.fn 541=some NW:=rfl
theorem Uo (as0:List V):E.ext 541 as0=none:=rfl
theorem Ut:E.fn 219=some N0:=rfl
theorem Uu (as0:List V):E.ext 219 as0=none:=rfl
theorem aa0:E.fn 37=some f37:=rfl
theorem aa1 (as0:List V):E.ext 37 as0=none:=rfl
theorem Uv:E.fn 27=some f27:=rfl
theorem Uw (as0:List V):E.ext 27 as0=none:=rfl
theorem Ux:E.fn 542=some N4:=rfl
theorem Uy (as0:List V):E.ext 542 as0=none:=rfl
theorem LI:E.fn 161=some f161:=rfl
theorem LJ (as0:List V):E.ext 161 as0=none:=rfl
theorem Uz:E.fn 127=some f127:=rfl
theorem UA (as0:List V):E.ext 127 as0=none:=rfl
theorem UB:E.fn 543=some N8:=rfl
theorem UC (as0:List V):E.ext 543 as0=none:=rfl
theorem ah7:E.fn 544=some TK:=rfl
theorem ah8 (as0:List V):E.ext 544 as0=none:=rfl
theorem ahq:E.fn 545=some TL:=rfl
theorem ahr (as0:List V):E.ext 545 as0=none:=rfl
theorem UD:E.fn 546=some Od:=rfl
theorem UE (as0:List V):E.ext 546 as0=none:=rfl
theorem aa2:E.fn 83=some f83:=rfl
theorem aa3 (as0:List V):E.ext 83 as0=none:=rfl
theorem UF:E.fn 84=some f84:=rfl
theorem UG (as0:List V):E.ext 84 as0=none:=rfl
theorem aaS:E.fn 85=some f85:=rfl
theorem aaT (as0:List V):E.ext 85 as0=none:=rfl
theorem aa4:E.fn 86=some f86:=rfl
theorem aa5 (as0:List V):E.ext 86 as0=none:=rfl
theorem aa6:E.fn 87=some f87:=rfl
theorem aa7 (as0:List V):E.ext 87 as0=none:=rfl
theorem UH:E.fn 130=some f130:=rfl
theorem UI (as0:List V):E.ext 130 as0=none:=rfl
theorem LK:E.fn 131=some f131:=rfl
theorem LL (as0:List V):E.ext 131 as0=none:=rfl
theorem UJ:E.fn 547=some Ov:=rfl
theorem UK (as0:List V):E.ext 547 as0=none:=rfl
theorem GB:E.fn 548=some JD:=rfl
theorem GC (as0:List V):E.ext 548 as0=none:=rfl
theorem UL:E.fn 549=some JG:=rfl
theorem UM (as0:List V):E.ext 549 as0=none:=rfl
theorem LM:E.fn 550=some Oz:=rfl
theorem LN (as0:List V):E.ext 550 as0=none:=rfl
theorem UN:E.fn 179=some f179:=rfl
theorem UO (as0:List V):E.ext 179 as0=none:=rfl
theorem UP:E.fn 551=some OC:=rfl
theorem UQ (as0:List V):E.ext 551 as0=none:=rfl
theorem UR:E.fn 181=some f181:=rfl
theorem US (as0:List V):E.ext 181 as0=none:=rfl
theorem UT:E.fn 182=some f182:=rfl
theorem UU (as0:List V):E.ext 182 as0=none:=rfl
theorem LO:E.fn 183=some f183:=rfl
theorem LP (as0:List V):E.ext 183 as0=none:=rfl
theorem UW:E.fn 184=some f184:=rfl
theorem UX (as0:List V):E.ext 184 as0=none:=rfl
theorem UY:E.fn 552=some OI:=rfl
theorem UZ (as0:List V):E.ext 552 as0=none:=rfl
theorem LQ:E.fn 553=some JI:=rfl
theorem LR (as0:List V):E.ext 553 as0=none:=rfl
theorem U0:E.fn 554=some OL:=rfl
theorem U1 (as0:List V):E.ext 554 as0=none:=rfl
theorem U2:E.fn 555=some ON:=rfl
theorem U3 (as0:List V):E.ext 555 as0=none:=rfl
theorem LS:E.fn 556=some OP:=rfl
theorem LU (as0:List V):E.ext 556 as0=none:=rfl
theorem aa8:E.fn 41=some f41:=rfl
theorem aa9 (as0:List V):E.ext 41 as0=none:=rfl
theorem U4:E.fn 216=some OR:=rfl
theorem U5 (as0:List V):E.ext 216 as0=none:=rfl
theorem U6:E.fn 557=some OT:=rfl
theorem U7 (as0:List V):E.ext 557 as0=none:=rfl
theorem ah9:E.fn 558=some TR:=rfl
theorem aia (as0:List V):E.ext 558 as0=none:=rfl
theorem aba:E.fn 22=some f22:=rfl
theorem abb (as0:List V):E.ext 22 as0=none:=rfl
theorem abc:E.fn 23=some f23:=rfl
theorem abd (as0:List V):E.ext 23 as0=none:=rfl
theorem U8:E.fn 113=some f113:=rfl
theorem U9 (as0:List V):E.ext 113 as0=none:=rfl
theorem Va:E.fn 114=some f114:=rfl
theorem Vb (as0:List V):E.ext 114 as0=none:=rfl
theorem Vc:E.fn 115=some f115:=rfl
theorem Vd (as0:List V):E.ext 115 as0=none:=rfl
theorem Ve:E.fn 116=some f116:=rfl
theorem Vf (as0:List V):E.ext 116 as0=none:=rfl
theorem Vg:E.fn 117=some f117:=rfl
theorem Vh (as0:List V):E.ext 117 as0=none:=rfl
theorem Vi:E.fn 118=some f118:=rfl
theorem Vj (as0:List V):E.ext 118 as0=none:=rfl
theorem Vk:E.fn 119=some f119:=rfl
theorem Vl (as0:List V):E.ext 119 as0=none:=rfl
theorem Vm:E.fn 120=some f120:=rfl
theorem Vn (as0:List V):E.ext 120 as0=none:=rfl
theorem Vo:E.fn 121=some f121:=rfl
theorem Vp (as0:List V):E.ext 121 as0=none:=rfl
theorem Vq:E.fn 122=some f122:=rfl
theorem Vr (as0:List V):E.ext 122 as0=none:=rfl
theorem Vs:E.fn 559=some Pa:=rfl
theorem Vt (as0:List V):E.ext 559 as0=none:=rfl
theorem LV:E.fn 560=some Pc:=rfl
theorem LW (as0:List V):E.ext 560 as0=none:=rfl
theorem CX:E.fn 561=some Pe:=rfl
theorem CY (as0:List V):E.ext 561 as0=none:=rfl
theorem kp:E.fn 562=some Pg:=rfl
theorem kq (as0:List V):E.ext 562 as0=none:=rfl
theorem GD:E.fn 563=some Pj:=rfl
theorem GF (as0:List V):E.ext 563 as0=none:=rfl
theorem Vu:E.fn 187=some f187:=rfl
theorem Vv (as0:List V):E.ext 187 as0=none:=rfl
theorem Vw:E.fn 220=some Pm:=rfl
theorem Vx (as0:List V):E.ext 220 as0=none:=rfl
theorem Vy:E.fn 189=some f189:=rfl
theorem Vz (as0:List V):E.ext 189 as0=none:=rfl
theorem VA:E.fn 222=some Pp:=rfl
theorem VB (as0:List V):E.ext 222 as0=none:=rfl
theorem VC:E.fn 565=some Pr:=rfl
theorem VD (as0:List V):E.ext 565 as0=none:=rfl
theorem VE:E.fn 566=some Pu:=rfl
theorem VF (as0:List V):E.ext 566 as0=none:=rfl
theorem VG:E.fn 186=some f186:=rfl
theorem VH (as0:List V):E.ext 186 as0=none:=rfl
theorem abe:E.fn 33=some f33:=rfl
theorem abf (as0:List V):E.ext 33 as0=none:=rfl
theorem aib:E.fn 567=some TY:=rfl
theorem aic (as0:List V):E.ext 567 as0=none:=rfl
theorem aid:E.fn 568=some ahB:=rfl
theorem aie (as0:List V):E.ext 568 as0=none:=rfl
theorem aif:E.fn 569=some ahD:=rfl
theorem aih (as0:List V):E.ext 569 as0=none:=rfl
theorem aii:E.fn 570=some ahF:=rfl
theorem aij (as0:List V):E.ext 570 as0=none:=rfl
theorem aik:E.fn 571=some ahH:=rfl
theorem ail (as0:List V):E.ext 571 as0=none:=rfl
theorem aim:E.fn 572=some ahJ:=rfl
theorem ain (as0:List V):E.ext 572 as0=none:=rfl
theorem aio:E.fn 574=some agM:=rfl
theorem aip (as0:List V):E.ext 574 as0=none:=rfl
theorem abg:E.fn 36=some f36:=rfl
theorem abh (as0:List V):E.ext 36 as0=none:=rfl
theorem VI:E.fn 162=some f162:=rfl
theorem VJ (as0:List V):E.ext 162 as0=none:=rfl
theorem VK:E.fn 163=some f163:=rfl
theorem VL (as0:List V):E.ext 163 as0=none:=rfl
theorem VM:E.fn 164=some f164:=rfl
theorem VN (as0:List V):E.ext 164 as0=none:=rfl
theorem LX:E.fn 575=some PD:=rfl
theorem LY (as0:List V):E.ext 575 as0=none:=rfl
theorem VO:E.fn 576=some PF:=rfl
theorem VP (as0:List V):E.ext 576 as0=none:=rfl
theorem VQ:E.fn 577=some PH:=rfl
theorem VR (as0:List V):E.ext 577 as0=none:=rfl
theorem GG:E.fn 578=some PJ:=rfl
theorem GH (as0:List V):E.ext 578 as0=none:=rfl
theorem LZ:E.fn 579=some PL:=rfl
theorem L0 (as0:List V):E.ext 579 as0=none:=rfl
theorem VS:E.fn 580=some PN:=rfl
theorem VT (as0:List V):E.ext 580 as0=none:=rfl
theorem GI:E.fn 581=some PQ:=rfl
theorem GJ (as0:List V):E.ext 581 as0=none:=rfl
theorem VU:E.fn 224=some PS:=rfl
theorem VV (as0:List V):E.ext 224 as0=none:=rfl
theorem VW:E.fn 227=some PU:=rfl
theorem VX (as0:List V):E.ext 227 as0=none:=rfl
theorem VY:E.fn 251=some PW:=rfl
theorem VZ (as0:List V):E.ext 251 as0=none:=rfl
theorem V0:E.fn 252=some PY:=rfl
theorem V1 (as0:List V):E.ext 252 as0=none:=rfl
theorem V2:E.fn 253=some P0:=rfl
theorem V3 (as0:List V):E.ext 253 as0=none:=rfl
theorem V4:E.fn 254=some P2:=rfl
theorem V5 (as0:List V):E.ext 254 as0=none:=rfl
theorem V6:E.fn 255=some P4:=rfl
theorem V7 (as0:List V):E.ext 255 as0=none:=rfl
theorem V8:E.fn 175=some f175:=rfl
theorem V9 (as0:List V):E.ext 175 as0=none:=rfl
theorem Wa:E.fn 223=some P7:=rfl
theorem Wb (as0:List V):E.ext 223 as0=none:=rfl
theorem Wc:E.fn 429=some P9:=rfl
theorem Wd (as0:List V):E.ext 429 as0=none:=rfl
theorem We:E.fn 430=some Qb:=rfl
theorem Wf (as0:List V):E.ext 430 as0=none:=rfl
theorem aiq:E.fn 582=some ahN:=rfl
theorem air (as0:List V):E.ext 582 as0=none:=rfl
theorem aiR:E.fn 55=some f55:=rfl
theorem aiS (as0:List V):E.ext 55 as0=none:=rfl
theorem ais:E.fn 583=some ahP:=rfl
theorem ait (as0:List V):E.ext 583 as0=none:=rfl
theorem aiu:E.fn 584=some ahR:=rfl
theorem aiv (as0:List V):E.ext 584 as0=none:=rfl
theorem Wg:E.fn 198=some f198:=rfl
theorem Wh (as0:List V):E.ext 198 as0=none:=rfl
theorem Wi:E.fn 199=some f199:=rfl
theorem Wj (as0:List V):E.ext 199 as0=none:=rfl
theorem Wk:E.fn 200=some f200:=rfl
theorem Wl (as0:List V):E.ext 200 as0=none:=rfl
theorem Wm:E.fn 201=some f201:=rfl
theorem Wn (as0:List V):E.ext 201 as0=none:=rfl
theorem Wo:E.fn 202=some f202:=rfl
theorem Wp (as0:List V):E.ext 202 as0=none:=rfl
theorem L1:E.fn 282=some Qi:=rfl
theorem L2 (as0:List V):E.ext 282 as0=none:=rfl
theorem GK:E.fn 271=some Qk:=rfl
theorem GL (as0:List V):E.ext 271 as0=none:=rfl
theorem Wq:E.fn 259=some Qm:=rfl
theorem Wr (as0:List V):E.ext 259 as0=none:=rfl
theorem Ws:E.fn 260=some Qo:=rfl
theorem Wt (as0:List V):E.ext 260 as0=none:=rfl
theorem Wu:E.fn 276=some Qq:=rfl
theorem Wv (as0:List V):E.ext 276 as0=none:=rfl
theorem L3:E.fn 277=some Qs:=rfl
theorem L4 (as0:List V):E.ext 277 as0=none:=rfl
theorem Ww:E.fn 278=some Qu:=rfl
theorem Wx (as0:List V):E.ext 278 as0=none:=rfl
theorem ag6:E.fn 585=some ahT:=rfl
theorem ag7 (as0:List V):E.ext 585 as0=none:=rfl
theorem Wy:E.fn 235=some Qw:=rfl
theorem Wz (as0:List V):E.ext 235 as0=none:=rfl
theorem WA:E.fn 236=some Qy:=rfl
theorem WB (as0:List V):E.ext 236 as0=none:=rfl
theorem WC:E.fn 237=some QA:=rfl
theorem WD (as0:List V):E.ext 237 as0=none:=rfl
theorem WE:E.fn 238=some QC:=rfl
theorem WG (as0:List V):E.ext 238 as0=none:=rfl
theorem L5:E.fn 283=some QE:=rfl
theorem L6 (as0:List V):E.ext 283 as0=none:=rfl
theorem L7:E.fn 284=some QG:=rfl
theorem L8 (as0:List V):E.ext 284 as0=none:=rfl
theorem L9:E.fn 285=some QI:=rfl
theorem Ma (as0:List V):E.ext 285 as0=none:=rfl
theorem WH:E.fn 280=some QK:=rfl
theorem WI (as0:List V):E.ext 280 as0=none:=rfl
theorem WJ:E.fn 287=some QM:=rfl
theorem WK (as0:List V):E.ext 287 as0=none:=rfl
theorem WL:E.fn 288=some QO:=rfl
theorem WM (as0:List V):E.ext 288 as0=none:=rfl
theorem WN:E.fn 289=some QQ:=rfl
theorem WO (as0:List V):E.ext 289 as0=none:=rfl
theorem WQ:E.fn 290=some QS:=rfl
theorem WR (as0:List V):E.ext 290 as0=none:=rfl
theorem WS:E.fn 270=some QU:=rfl
theorem WT (as0:List V):E.ext 270 as0=none:=rfl
theorem WU:E.fn 298=some QW:=rfl
theorem WV (as0:List V):E.ext 298 as0=none:=rfl
theorem WW:E.fn 299=some QY:=rfl
theorem WX (as0:List V):E.ext 299 as0=none:=rfl
theorem WY:E.fn 300=some Q0:=rfl
theorem WZ (as0:List V):E.ext 300 as0=none:=rfl
theorem W2:E.fn 304=some Q3:=rfl
theorem W4 (as0:List V):E.ext 304 as0=none:=rfl
theorem abm (as0:List V):E.ext 32 as0=fi 2 8278675785407 as0:=rfl
theorem abn (as0:List V):E.ext 52 as0=y6 as0:=rfl
end Go.AM
