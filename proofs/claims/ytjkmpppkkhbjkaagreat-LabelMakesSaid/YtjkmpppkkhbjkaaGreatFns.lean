/-
  Texts of the proof: AmFns.
-/
import Derived.Test.YtjkmpppkkhbjkaaGreatBase
import Derived.Test.YtjkmpppkkhbjkaaGreatOpsA
import Derived.Test.YtjkmpppkkhbjkaaGreatProg
set_option linter.unusedSimpArgs false
set_option linter.unusedVariables false
set_option maxRecDepth 100000
namespace Go.AM
open Go.Proofs
def CC:List Nat:=[0,1,2,586,591,592,593,594,595,596,597,598,599,600,601,602,603,604,605,606,611,612,609,77,613,614,615,616,610,617,618,619,620,621,277,623,624,27,83,84,85,86,87,162,628,629,630,31,631,632,633,625,626,627,634,635,636,287,288,289,37,38,189,41,113,114,115,116,117,118,93,119,120,121,122,639,640,525,486,641,88,33,642,22,23,638,575,161,166,298,299,300,227,52,131,163,164,530,493,646,91,647,648,649,650,536,537,538,539,488,503,92,651,652,653,654,123,124,655,656,36,282,304,259,260,198,199,200,201,202,546,528,509,490,660,129,90,548,549,504,130,661,662,663,664,280,235,236,237,238,542,127,513,128,559,560,561,562,563,669,670,671,270,271,576,577,578,579,580,581,283,284,285,59,60,61,62,63,64,65,66,67,68,69,70,71,72,73,74]
def CD:List (Nat×Nat):=[]
noncomputable def X0:TrEnv:=⟨Tryz.prog,fun F=>CC[F]?,fun t=> (CD.find? (·.1==t)).map (·.2)⟩
abbrev CF (h:Hints) (F:Func):Type:={f:aA // uu X0 h F=some f}
def dL:aW→List aW
 | .seq a b=>dL a++dL b
 | .block _ a=>dL a
 | .scope a=>dL a
 | .cond _ a b=>dL a++dL b
 | .loop a=>dL a++[a]
 | .lY _ _ _ a=>dL a
 | _=> []
def PC:CF {lits:=[(8,[4,5,8,7]),(26,[4,5,8,7]),(9,[4,5,8,7]),(30,[4,5,8,7,4,5,8,7,4,5,8,7]),(39,[2,2,2])],eQ:=[(13,50,225),(14,57,241)]} Tryz.f3:=⟨_,by conv=>lhs;cbv⟩
def PD:aA:=PC.1
def PE:CF {bg:=[6],lits:=[(1,[4,5,8,7]),(126,[0,5])],eQ:=[(2,8,49),(5,128,97)],bZ:=[8,10]} Tryz.f4:=⟨_,by conv=>lhs;cbv⟩
def LJ:aA:=PE.1
def PF:CF {bg:=[13],lits:=[(4,[4,5,8,7]),(5,[4,5,8,7])]} Tryz.f5:=⟨_,by conv=>lhs;cbv⟩
def PG:aA:=PF.1
def PH:CF {name:=[(31,65)],iL:=[(2,49,7),(3,65,7)],eQ:=[(3,31,65)]} Tryz.f6:=⟨_,by conv=>lhs;cbv⟩
def PI:aA:=PH.1
def PJ:CF {name:=[(22,65)],iL:=[(2,49,2),(3,65,2)],eQ:=[(4,7,81),(3,22,65)]} Tryz.f7:=⟨_,by conv=>lhs;cbv⟩
def PK:aA:=PJ.1
def PL:CF {name:=[(31,65)],lits:=[(5,[0,5])],iL:=[(2,49,2),(3,65,2)],eQ:=[(3,31,65)]} Tryz.f8:=⟨_,by conv=>lhs;cbv⟩
def PM:aA:=PL.1
def PN:CF {name:=[(39,145),(50,145),(58,81)],lits:=[(10,[0,5])],iL:=[(4,81,6),(8,145,1)],eQ:=[(8,39,145),(8,50,145),(4,58,81)],bZ:=[10,6,12],deep:=[37,48,53]} Tryz.f9:=⟨_,by conv=>lhs;cbv⟩
def PO:aA:=PN.1
def PQ:CF {name:=[(78,97)],iL:=[(4,81,6),(5,97,6)],eQ:=[(6,14,113),(5,78,97)]} Tryz.f10:=⟨_,by conv=>lhs;cbv⟩
def PR:aA:=PQ.1
def PS:CF {} Tryz.f11:=⟨_,by conv=>lhs;cbv⟩
def PT:aA:=PS.1
def PU:CF {} Tryz.f12:=⟨_,by conv=>lhs;cbv⟩
def PV:aA:=PU.1
def PW:CF {name:=[(16,49)],iL:=[(2,49,1)],eQ:=[(2,16,49)]} Tryz.f13:=⟨_,by conv=>lhs;cbv⟩
def PX:aA:=PW.1
def PY:CF {name:=[(21,65)],iL:=[(2,49,1),(3,65,1)],eQ:=[(4,7,81),(3,21,65)]} Tryz.f14:=⟨_,by conv=>lhs;cbv⟩
def PZ:aA:=PY.1
def P0:CF {name:=[(29,81)],iL:=[(4,81,1)],eQ:=[(4,29,81)]} Tryz.f15:=⟨_,by conv=>lhs;cbv⟩
def P1:aA:=P0.1
def P2:CF {name:=[(39,97)],iL:=[(4,81,1),(5,97,1)],eQ:=[(5,39,97)]} Tryz.f16:=⟨_,by conv=>lhs;cbv⟩
def P3:aA:=P2.1
def P4:CF {} Tryz.f17:=⟨_,by conv=>lhs;cbv⟩
def P5:aA:=P4.1
def P6:CF {} Tryz.f18:=⟨_,by conv=>lhs;cbv⟩
def P7:aA:=P6.1
def P8:CF {} Tryz.f19:=⟨_,by conv=>lhs;cbv⟩
def P9:aA:=P8.1
def Qa:CF {lits:=[(0,[4,5,8,7]),(7,[4,5,8,7])]} Tryz.f20:=⟨_,by conv=>lhs;cbv⟩
def ZR:aA:=Qa.1
def Qb:CF {} Tryz.f21:=⟨_,by conv=>lhs;cbv⟩
def Qc:aA:=Qb.1
def Qd:CF {} Tryz.f22:=⟨_,by conv=>lhs;cbv⟩
def ZS:aA:=Qd.1
def c77:CF {bg:=[13,67,72],lits:=[(2,[4,5,8,7]),(3,[4,5,8,7]),(20,[1,0])]} Tryz.f23:=⟨_,by conv=>lhs;cbv⟩
def f77:aA:=c77.1
def Qe:CF {lits:=[(2,[1]),(3,[1])],eQ:=[(3,21,65),(3,36,65),(3,51,65)]} Tryz.f24:=⟨_,by conv=>lhs;cbv⟩
def Qf:aA:=Qe.1
def Qg:CF {name:=[(38,99)],lits:=[(4,[0,5]),(9,[4,5,8,7]),(43,[0,5])]} Tryz.f25:=⟨_,by conv=>lhs;cbv⟩
def Qh:aA:=Qg.1
def Qi:CF {bg:=[6,7],lits:=[(2,[7])],eQ:=[(3,7,65)],bZ:=[10]} Tryz.f26:=⟨_,by conv=>lhs;cbv⟩
def Qj:aA:=Qi.1
def Qk:CF {} Tryz.f27:=⟨_,by conv=>lhs;cbv⟩
def Ql:aA:=Qk.1
def Qm:CF {} Tryz.f28:=⟨_,by conv=>lhs;cbv⟩
def Qn:aA:=Qm.1
def Qo:CF {} Tryz.f29:=⟨_,by conv=>lhs;cbv⟩
def Qp:aA:=Qo.1
def Qq:CF {} Tryz.f30:=⟨_,by conv=>lhs;cbv⟩
def LK:aA:=Qq.1
def Qr:CF {name:=[(64,65)],iL:=[(2,49,7),(3,65,7)],eQ:=[(3,64,65)]} Tryz.f31:=⟨_,by conv=>lhs;cbv⟩
def Qs:aA:=Qr.1
def Qt:CF {} Tryz.f32:=⟨_,by conv=>lhs;cbv⟩
def Qu:aA:=Qt.1
def Qv:CF {} Tryz.f33:=⟨_,by conv=>lhs;cbv⟩
def Qw:aA:=Qv.1
def Qx:CF {} Tryz.f34:=⟨_,by conv=>lhs;cbv⟩
def Qy:aA:=Qx.1
def Qz:CF {} Tryz.f35:=⟨_,by conv=>lhs;cbv⟩
def QA:aA:=Qz.1
def QB:CF {} Tryz.f36:=⟨_,by conv=>lhs;cbv⟩
def QC:aA:=QB.1
def c27:CF {} Tryz.f37:=⟨_,by conv=>lhs;cbv⟩
def f27:aA:=c27.1
def c83:CF {bg:=[143,180,204,207],lits:=[(2,[4]),(3,[5]),(4,[1]),(5,[1]),(6,[1]),(40,[1,0]),(105,[1,0])],iL:=[(14,241,4)],eQ:=[(14,143,241),(14,180,241),(14,204,241)]} Tryz.f38:=⟨_,by conv=>lhs;cbv⟩
def f83:aA:=c83.1
def c84:CF {lits:=[(4,[1])]} Tryz.f39:=⟨_,by conv=>lhs;cbv⟩
def f84:aA:=c84.1
def c85:CF {fJ:=[some 2,none]} Tryz.f40:=⟨_,by conv=>lhs;cbv⟩
def f85:aA:=c85.1
def c86:CF {bg:=[31,50,61,69],lits:=[(2,[8]),(9,[1,0])],iL:=[(4,81,8)],eQ:=[(4,31,81),(4,50,81),(4,61,81),(4,69,81)]} Tryz.f41:=⟨_,by conv=>lhs;cbv⟩
def f86:aA:=c86.1
def c87:CF {name:=[(86,113)],lits:=[(14,[1,0])],iL:=[(4,81,7),(6,113,7)],eQ:=[(6,86,113)]} Tryz.f42:=⟨_,by conv=>lhs;cbv⟩
def f87:aA:=c87.1
def QD:CF {name:=[(43,113)],lits:=[(4,[1])],eQ:=[(6,39,113)]} Tryz.f43:=⟨_,by conv=>lhs;cbv⟩
def f162:aA:=QD.1
def QE:CF {eQ:=[(8,12,145)]} Tryz.f44:=⟨_,by conv=>lhs;cbv⟩
def QF:aA:=QE.1
def QG:CF {lits:=[(4,[4,5,8,7]),(12,[4,5,8,7])]} Tryz.f45:=⟨_,by conv=>lhs;cbv⟩
def QH:aA:=QG.1
def QI:CF {fJ:=[some 7,none],lits:=[(4,[7])]} Tryz.f46:=⟨_,by conv=>lhs;cbv⟩
def QJ:aA:=QI.1
def QK:CF {} Tryz.f48:=⟨_,by conv=>lhs;cbv⟩
def QL:aA:=QK.1
def QM:CF {fJ:=[some 7,none]} Tryz.f49:=⟨_,by conv=>lhs;cbv⟩
def QN:aA:=QM.1
def QO:CF {} Tryz.f50:=⟨_,by conv=>lhs;cbv⟩
def QP:aA:=QO.1
def QQ:CF {} Tryz.f51:=⟨_,by conv=>lhs;cbv⟩
def QR:aA:=QQ.1
def QS:CF {} Tryz.f52:=⟨_,by conv=>lhs;cbv⟩
def QT:aA:=QS.1
def QU:CF {} Tryz.f53:=⟨_,by conv=>lhs;cbv⟩
def QV:aA:=QU.1
def QW:CF {} Tryz.f54:=⟨_,by conv=>lhs;cbv⟩
def QX:aA:=QW.1
def QY:CF {} Tryz.f55:=⟨_,by conv=>lhs;cbv⟩
def QZ:aA:=QY.1
def Q0:CF {} Tryz.f56:=⟨_,by conv=>lhs;cbv⟩
def Q1:aA:=Q0.1
def Q2:CF {} Tryz.f57:=⟨_,by conv=>lhs;cbv⟩
def Q3:aA:=Q2.1
def Q4:CF {} Tryz.f58:=⟨_,by conv=>lhs;cbv⟩
def Q5:aA:=Q4.1
def Q6:CF {} Tryz.f59:=⟨_,by conv=>lhs;cbv⟩
def Q7:aA:=Q6.1
def c37:CF {} Tryz.f60:=⟨_,by conv=>lhs;cbv⟩
def f37:aA:=c37.1
def c38:CF {} Tryz.f61:=⟨_,by conv=>lhs;cbv⟩
def f38:aA:=c38.1
def Q8:CF {} Tryz.f62:=⟨_,by conv=>lhs;cbv⟩
def Q9:aA:=Q8.1
def c41:CF {} Tryz.f63:=⟨_,by conv=>lhs;cbv⟩
def f41:aA:=c41.1
def Ra:CF {fJ:=[some 4,none,none,none,some 2],name:=[(31,17)],lits:=[(22,[0,2,0,0]),(11,[0,2,0,0])],iL:=[(10,177,4)]} Tryz.f64:=⟨_,by conv=>lhs;cbv⟩
def f113:aA:=Ra.1
def Rb:CF {fJ:=[none,none,some 2],name:=[(71,129),(75,129)],lits:=[(6,[2])],eQ:=[(7,14,129),(7,71,129)]} Tryz.f65:=⟨_,by conv=>lhs;cbv⟩
def f114:aA:=Rb.1
def Rc:CF {} Tryz.f66:=⟨_,by conv=>lhs;cbv⟩
def f115:aA:=Rc.1
def Rd:CF {} Tryz.f67:=⟨_,by conv=>lhs;cbv⟩
def f116:aA:=Rd.1
def Re:CF {fJ:=[some 4,none,none,some 2],bg:=[95],lits:=[(8,[4])],eQ:=[(10,50,177),(10,90,177)]} Tryz.f68:=⟨_,by conv=>lhs;cbv⟩
def f117:aA:=Re.1
def Rf:CF {name:=[(52,97)],lits:=[(3,[1])],iL:=[(2,49,5),(5,97,5)],eQ:=[(3,25,65),(3,38,65),(5,52,97)]} Tryz.f69:=⟨_,by conv=>lhs;cbv⟩
def f118:aA:=Rf.1
def c93:CF {} Tryz.f70:=⟨_,by conv=>lhs;cbv⟩
def f93:aA:=c93.1
def Rg:CF {fJ:=[some 8,none,none,none,some 2],name:=[(84,195),(90,195),(122,17)],lits:=[(10,[8])]} Tryz.f71:=⟨_,by conv=>lhs;cbv⟩
def f119:aA:=Rg.1
def Rh:CF {} Tryz.f72:=⟨_,by conv=>lhs;cbv⟩
def f120:aA:=Rh.1
def Ri:CF {} Tryz.f73:=⟨_,by conv=>lhs;cbv⟩
def f121:aA:=Ri.1
def Rj:CF {} Tryz.f74:=⟨_,by conv=>lhs;cbv⟩
def f122:aA:=Rj.1
def Rk:CF {bg:=[11],name:=[(16,113),(21,113),(26,113),(54,97)],iL:=[(4,81,5),(5,97,5)],eQ:=[(6,11,113),(6,16,113),(6,21,113),(6,26,113),(5,54,97)]} Tryz.f75:=⟨_,by conv=>lhs;cbv⟩
def Rl:aA:=Rk.1
def Rm:CF {} Tryz.f76:=⟨_,by conv=>lhs;cbv⟩
def Rn:aA:=Rm.1
def Ro:CF {bg:=[20],lits:=[(6,[4,5,8,7]),(17,[4,5,8,7]),(9,[4,5,8,7]),(37,[4,5,8,7])]} Tryz.f77:=⟨_,by conv=>lhs;cbv⟩
def Rp:aA:=Ro.1
def Rq:CF {name:=[(90,210),(137,211)],lits:=[(6,[4,5,8,7]),(25,[4,5,8,7]),(11,[4,5,8,7]),(39,[0,0,8,7]),(12,[0,0,8,7]),(14,[0,2,0,0]),(139,[4,5,8,7])]} Tryz.f78:=⟨_,by conv=>lhs;cbv⟩
def ID:aA:=Rq.1
def Rr:CF {lits:=[(4,[4,5,8,7]),(13,[4,5,8,7]),(7,[4,5,8,7]),(24,[4,5,8,7])]} Tryz.f79:=⟨_,by conv=>lhs;cbv⟩
def Rs:aA:=Rr.1
def c88:CF {name:=[(70,213),(83,213)],lits:=[(6,[4,5,8,7]),(20,[4,5,8,7]),(12,[4,5,8,0]),(85,[4,5,8,7])]} Tryz.f80:=⟨_,by conv=>lhs;cbv⟩
def f88:aA:=c88.1
def c33:CF {} Tryz.f81:=⟨_,by conv=>lhs;cbv⟩
def f33:aA:=c33.1
def Rt:CF {fJ:=[some 7,none,none]} Tryz.f82:=⟨_,by conv=>lhs;cbv⟩
def Ru:aA:=Rt.1
def c22:CF {} Tryz.f83:=⟨_,by conv=>lhs;cbv⟩
def f22:aA:=c22.1
def c23:CF {} Tryz.f84:=⟨_,by conv=>lhs;cbv⟩
def f23:aA:=c23.1
def Rv:CF {} Tryz.f85:=⟨_,by conv=>lhs;cbv⟩
def Rw:aA:=Rv.1
def Rx:CF {} Tryz.f86:=⟨_,by conv=>lhs;cbv⟩
def Ry:aA:=Rx.1
def Rz:CF {} Tryz.f87:=⟨_,by conv=>lhs;cbv⟩
def f161:aA:=Rz.1
def RA:CF {} Tryz.f88:=⟨_,by conv=>lhs;cbv⟩
def f166:aA:=RA.1
def RB:CF {} Tryz.f89:=⟨_,by conv=>lhs;cbv⟩
def RC:aA:=RB.1
def RD:CF {} Tryz.f90:=⟨_,by conv=>lhs;cbv⟩
def RE:aA:=RD.1
def RF:CF {} Tryz.f91:=⟨_,by conv=>lhs;cbv⟩
def RG:aA:=RF.1
def RH:CF {} Tryz.f92:=⟨_,by conv=>lhs;cbv⟩
def RI:aA:=RH.1
def RJ:CF {name:=[(28,67)],lits:=[(2,[0,2,0,0]),(30,[0,2,0,0])]} Tryz.f94:=⟨_,by conv=>lhs;cbv⟩
def f131:aA:=RJ.1
def RK:CF {} Tryz.f95:=⟨_,by conv=>lhs;cbv⟩
def f163:aA:=RK.1
def RL:CF {name:=[(51,99),(56,65)],iL:=[(2,49,4),(3,65,4)],eQ:=[(3,56,65)]} Tryz.f96:=⟨_,by conv=>lhs;cbv⟩
def f164:aA:=RL.1
def RM:CF {name:=[(74,145)],lits:=[(4,[5]),(7,[0,2,0,0])],iL:=[(5,97,5),(8,145,5)],eQ:=[(8,74,145),(5,102,97)]} Tryz.f97:=⟨_,by conv=>lhs;cbv⟩
def LL:aA:=RM.1
def RN:CF {name:=[(114,129)],lits:=[(5,[1])],iL:=[(4,81,5),(7,129,5)],eQ:=[(5,28,97),(7,114,129)]} Tryz.f98:=⟨_,by conv=>lhs;cbv⟩
def LM:aA:=RN.1
def RO:CF {name:=[(49,97)],lits:=[(7,[0,2,0,0,0,0,0,0])],iL:=[(4,81,5),(5,97,5)],eQ:=[(5,49,97)]} Tryz.f99:=⟨_,by conv=>lhs;cbv⟩
def RP:aA:=RO.1
def c91:CF {lits:=[(4,[5])],iL:=[(5,97,5)],eQ:=[(5,81,97)]} Tryz.f100:=⟨_,by conv=>lhs;cbv⟩
def f91:aA:=c91.1
def RQ:CF {eQ:=[(5,18,97),(6,29,113)]} Tryz.f101:=⟨_,by conv=>lhs;cbv⟩
def RR:aA:=RQ.1
def RS:CF {} Tryz.f102:=⟨_,by conv=>lhs;cbv⟩
def RT:aA:=RS.1
def RU:CF {} Tryz.f103:=⟨_,by conv=>lhs;cbv⟩
def RV:aA:=RU.1
def RW:CF {} Tryz.f104:=⟨_,by conv=>lhs;cbv⟩
def RX:aA:=RW.1
def RY:CF {lits:=[(8,[0,2,0,0])]} Tryz.f105:=⟨_,by conv=>lhs;cbv⟩
def RZ:aA:=RY.1
def R3:CF {name:=[(29,66),(35,67),(58,68),(64,69)],lits:=[(2,[4,5,8,7]),(5,[0,2,0,0]),(7,[0,2,0,0,0,0,0,0]),(66,[4,5,8,7])]} Tryz.f106:=⟨_,by conv=>lhs;cbv⟩
def R4:aA:=R3.1
def R5:CF {} Tryz.f107:=⟨_,by conv=>lhs;cbv⟩
def R6:aA:=R5.1
def R7:CF {lits:=[(4,[2])]} Tryz.f108:=⟨_,by conv=>lhs;cbv⟩
def R8:aA:=R7.1
def R9:CF {} Tryz.f109:=⟨_,by conv=>lhs;cbv⟩
def Sa:aA:=R9.1
def Sb:CF {} Tryz.f110:=⟨_,by conv=>lhs;cbv⟩
def Sc:aA:=Sb.1
def c92:CF {name:=[(37,66),(59,68)],lits:=[(2,[4,5,8,7]),(16,[0,5,0,7]),(3,[0,5,0,7]),(5,[0,2,0,0]),(7,[0,2,0,0,0,0,0,0]),(61,[4,5,8,7])]} Tryz.f111:=⟨_,by conv=>lhs;cbv⟩
def f92:aA:=c92.1
def Sd:CF {lits:=[(6,[0,2,0,0,0,0,0,0])],eQ:=[(10,65,177)]} Tryz.f112:=⟨_,by conv=>lhs;cbv⟩
def Se:aA:=Sd.1
def Sg:CF {name:=[(38,66),(61,68)],lits:=[(2,[4,5,8,7]),(16,[0,5,0,7]),(3,[0,5,0,7]),(5,[0,2,0,0]),(7,[0,2,0,0,0,0,0,0]),(63,[4,5,8,7])]} Tryz.f113:=⟨_,by conv=>lhs;cbv⟩
def Si:aA:=Sg.1
def Sj:CF {lits:=[(4,[8])]} Tryz.f114:=⟨_,by conv=>lhs;cbv⟩
def Sk:aA:=Sj.1
def Sl:CF {} Tryz.f115:=⟨_,by conv=>lhs;cbv⟩
def Sn:aA:=Sl.1
def So:CF {} Tryz.f116:=⟨_,by conv=>lhs;cbv⟩
def f123:aA:=So.1
def Sp:CF {} Tryz.f117:=⟨_,by conv=>lhs;cbv⟩
def f124:aA:=Sp.1
def Sq:CF {fJ:=[some 7,none,none,none]} Tryz.f118:=⟨_,by conv=>lhs;cbv⟩
def Sr:aA:=Sq.1
def Ss:CF {fJ:=[some 7,none,none,none,none]} Tryz.f119:=⟨_,by conv=>lhs;cbv⟩
def ZT:aA:=Ss.1
def c36:CF {} Tryz.f120:=⟨_,by conv=>lhs;cbv⟩
def f36:aA:=c36.1
def Su:CF {} Tryz.f121:=⟨_,by conv=>lhs;cbv⟩
def Sv:aA:=Su.1
def Sw:CF {} Tryz.f122:=⟨_,by conv=>lhs;cbv⟩
def Sx:aA:=Sw.1
def Sy:CF {} Tryz.f123:=⟨_,by conv=>lhs;cbv⟩
def Sz:aA:=Sy.1
def SA:CF {} Tryz.f124:=⟨_,by conv=>lhs;cbv⟩
def SB:aA:=SA.1
def SC:CF {} Tryz.f125:=⟨_,by conv=>lhs;cbv⟩
def SD:aA:=SC.1
def SE:CF {} Tryz.f126:=⟨_,by conv=>lhs;cbv⟩
def SF:aA:=SE.1
def SG:CF {} Tryz.f127:=⟨_,by conv=>lhs;cbv⟩
def SH:aA:=SG.1
def SI:CF {} Tryz.f128:=⟨_,by conv=>lhs;cbv⟩
def SJ:aA:=SI.1
def SK:CF {} Tryz.f129:=⟨_,by conv=>lhs;cbv⟩
def SL:aA:=SK.1
def SM:CF {} Tryz.f130:=⟨_,by conv=>lhs;cbv⟩
def SN:aA:=SM.1
def SO:CF {} Tryz.f131:=⟨_,by conv=>lhs;cbv⟩
def SP:aA:=SO.1
def SQ:CF {lits:=[(9,[0,2,0,0])]} Tryz.f132:=⟨_,by conv=>lhs;cbv⟩
def SR:aA:=SQ.1
def SU:CF {} Tryz.f133:=⟨_,by conv=>lhs;cbv⟩
def SV:aA:=SU.1
def SW:CF {} Tryz.f134:=⟨_,by conv=>lhs;cbv⟩
def SX:aA:=SW.1
def SY:CF {} Tryz.f135:=⟨_,by conv=>lhs;cbv⟩
def f129:aA:=SY.1
def c90:CF {} Tryz.f136:=⟨_,by conv=>lhs;cbv⟩
def f90:aA:=c90.1
def SZ:CF {} Tryz.f137:=⟨_,by conv=>lhs;cbv⟩
def S4:aA:=SZ.1
def S5:CF {} Tryz.f138:=⟨_,by conv=>lhs;cbv⟩
def LN:aA:=S5.1
def S6:CF {lits:=[(6,[1]),(7,[1])],eQ:=[(7,55,129)]} Tryz.f139:=⟨_,by conv=>lhs;cbv⟩
def S7:aA:=S6.1
def S8:CF {lits:=[(2,[2])]} Tryz.f140:=⟨_,by conv=>lhs;cbv⟩
def f130:aA:=S8.1
def S9:CF {} Tryz.f141:=⟨_,by conv=>lhs;cbv⟩
def Ta:aA:=S9.1
def Tb:CF {name:=[(37,113)],iL:=[(4,81,8),(6,113,8)],eQ:=[(6,37,113)]} Tryz.f142:=⟨_,by conv=>lhs;cbv⟩
def Tc:aA:=Tb.1
def Td:CF {eQ:=[(5,13,97),(6,16,113),(7,18,129)]} Tryz.f143:=⟨_,by conv=>lhs;cbv⟩
def Te:aA:=Td.1
def Tf:CF {fJ:=[some 7,none,none,none,none]} Tryz.f144:=⟨_,by conv=>lhs;cbv⟩
def ZU:aA:=Tf.1
def Th:CF {} Tryz.f145:=⟨_,by conv=>lhs;cbv⟩
def Ti:aA:=Th.1
def Tj:CF {} Tryz.f146:=⟨_,by conv=>lhs;cbv⟩
def Tk:aA:=Tj.1
def Tl:CF {} Tryz.f147:=⟨_,by conv=>lhs;cbv⟩
def Tm:aA:=Tl.1
def Tn:CF {} Tryz.f148:=⟨_,by conv=>lhs;cbv⟩
def To:aA:=Tn.1
def Tp:CF {} Tryz.f149:=⟨_,by conv=>lhs;cbv⟩
def Tq:aA:=Tp.1
def Tr:CF {} Tryz.f150:=⟨_,by conv=>lhs;cbv⟩
def Ts:aA:=Tr.1
def Tt:CF {} Tryz.f151:=⟨_,by conv=>lhs;cbv⟩
def f127:aA:=Tt.1
def Tu:CF {} Tryz.f152:=⟨_,by conv=>lhs;cbv⟩
def Tv:aA:=Tu.1
def Tw:CF {} Tryz.f153:=⟨_,by conv=>lhs;cbv⟩
def f128:aA:=Tw.1
def Tx:CF {} Tryz.f154:=⟨_,by conv=>lhs;cbv⟩
def Ty:aA:=Tx.1
def Tz:CF {} Tryz.f155:=⟨_,by conv=>lhs;cbv⟩
def TA:aA:=Tz.1
def TB:CF {} Tryz.f156:=⟨_,by conv=>lhs;cbv⟩
def TC:aA:=TB.1
def TD:CF {} Tryz.f157:=⟨_,by conv=>lhs;cbv⟩
def TE:aA:=TD.1
def TF:CF {} Tryz.f158:=⟨_,by conv=>lhs;cbv⟩
def TG:aA:=TF.1
def TH:CF {} Tryz.f159:=⟨_,by conv=>lhs;cbv⟩
def TI:aA:=TH.1
def TJ:CF {name:=[(17,65)],iL:=[(2,49,1),(3,65,1)],eQ:=[(3,17,65)]} Tryz.f160:=⟨_,by conv=>lhs;cbv⟩
def TK:aA:=TJ.1
def TL:CF {fJ:=[some 7,none,none,none,none]} Tryz.f161:=⟨_,by conv=>lhs;cbv⟩
def ZV:aA:=TL.1
def TM:CF {} Tryz.f162:=⟨_,by conv=>lhs;cbv⟩
def TN:aA:=TM.1
def TO:CF {} Tryz.f163:=⟨_,by conv=>lhs;cbv⟩
def TP:aA:=TO.1
def TQ:CF {} Tryz.f164:=⟨_,by conv=>lhs;cbv⟩
def TR:aA:=TQ.1
def TS:CF {} Tryz.f165:=⟨_,by conv=>lhs;cbv⟩
def TU:aA:=TS.1
def TW:CF {} Tryz.f166:=⟨_,by conv=>lhs;cbv⟩
def TX:aA:=TW.1
def TY:CF {} Tryz.f167:=⟨_,by conv=>lhs;cbv⟩
def TZ:aA:=TY.1
def T3:CF {} Tryz.f168:=⟨_,by conv=>lhs;cbv⟩
def T4:aA:=T3.1
def T5:CF {} Tryz.f169:=⟨_,by conv=>lhs;cbv⟩
def T6:aA:=T5.1
def T7:CF {} Tryz.f170:=⟨_,by conv=>lhs;cbv⟩
def T8:aA:=T7.1
def T9:CF {} Tryz.f171:=⟨_,by conv=>lhs;cbv⟩
def Ua:aA:=T9.1
def Ub:CF {} Tryz.f172:=⟨_,by conv=>lhs;cbv⟩
def Uc:aA:=Ub.1
def LO:aW:=LJ.body
abbrev Bp:aW:=(dL f83.body).getD 1 .skip
abbrev LP:aW:=(dL f83.body).getD 3 .skip
abbrev LQ:aW:=(dL f83.body).getD 5 .skip
def Kn:aW:=f83.body
abbrev CE:aW:=(dL ID.body).getD 0 .skip
abbrev tf:aW:=(dL ID.body).getD 1 .skip
abbrev IE:aW:=(dL LL.body).getD 0 .skip
abbrev IF:aW:=(dL LM.body).getD 1 .skip
abbrev IG:aW:=(dL LN.body).getD 0 .skip
def FM:List (Nat×aA):=[(586,PD),(591,LJ),(592,PG),(593,PI),(594,PK),(595,PM),(596,PO),(597,PR),(598,PT),(599,PV),(600,PX),(601,PZ),(602,P1),(603,P3),(604,P5),(605,P7),(606,P9),(611,ZR),(612,Qc),(609,ZS),(77,f77),(613,Qf),(614,Qh),(615,Qj),(616,Ql),(610,Qn),(617,Qp),(618,LK),(619,Qs),(620,Qu),(621,Qw),(277,Qy),(623,QA),(624,QC),(27,f27),(83,f83),(84,f84),(85,f85),(86,f86),(87,f87),(162,f162),(628,QF),(629,QH),(630,QJ),(631,QL),(632,QN),(633,QP),(625,QR),(626,QT),(627,QV),(634,QX),(635,QZ),(636,Q1),(287,Q3),(288,Q5),(289,Q7),(37,f37),(38,f38),(189,Q9),(41,f41),(113,f113),(114,f114),(115,f115),(116,f116),(117,f117),(118,f118),(93,f93),(119,f119),(120,f120),(121,f121),(122,f122),(639,Rl),(640,Rn),(525,Rp),(486,ID),(641,Rs),(88,f88),(33,f33),(642,Ru),(22,f22),(23,f23),(638,Rw),(575,Ry),(161,f161),(166,f166),(298,RC),(299,RE),(300,RG),(227,RI),(131,f131),(163,f163),(164,f164),(530,LL),(493,LM),(646,RP),(91,f91),(647,RR),(648,RT),(649,RV),(650,RX),(536,RZ),(537,R4),(538,R6),(539,R8),(488,Sa),(503,Sc),(92,f92),(651,Se),(652,Si),(653,Sk),(654,Sn),(123,f123),(124,f124),(655,Sr),(656,ZT),(36,f36),(282,Sv),(304,Sx),(259,Sz),(260,SB),(198,SD),(199,SF),(200,SH),(201,SJ),(202,SL),(546,SN),(528,SP),(509,SR),(490,SV),(660,SX),(129,f129),(90,f90),(548,S4),(549,LN),(504,S7),(130,f130),(661,Ta),(662,Tc),(663,Te),(664,ZU),(280,Ti),(235,Tk),(236,Tm),(237,To),(238,Tq),(542,Ts),(127,f127),(513,Tv),(128,f128),(559,Ty),(560,TA),(561,TC),(562,TE),(563,TG),(669,TI),(670,TK),(671,ZV),(270,TN),(271,TP),(576,TR),(577,TU),(578,TX),(579,TZ),(580,T4),(581,T6),(283,T8),(284,Ua),(285,Uc)]
def FN:List (Nat× (List V→Option dk)):=[(31,tK 7 1927910799188),(52,yP)]
def CG:List (Nat× (List V→Option (List (List V)))):=[]
def E:Env:=Nj FM FN [] CG
theorem Ud:E.fn 586=some PD:=rfl
theorem Ue (aS:List V):E.ext 586 aS=none:=rfl
theorem Uf:E.fn 591=some LJ:=rfl
theorem Ug (aS:List V):E.ext 591 aS=none:=rfl
theorem Uh:E.fn 592=some PG:=rfl
theorem Ui (aS:List V):E.ext 592 aS=none:=rfl
theorem Uj:E.fn 593=some PI:=rfl
theorem Uk (aS:List V):E.ext 593 aS=none:=rfl
theorem Ul:E.fn 594=some PK:=rfl
theorem Um (aS:List V):E.ext 594 aS=none:=rfl
theorem Un:E.fn 595=some PM:=rfl
theorem Uo (aS:List V):E.ext 595 aS=none:=rfl
theorem Up:E.fn 596=some PO:=rfl
theorem Uq (aS:List V):E.ext 596 aS=none:=rfl
theorem Ur:E.fn 597=some PR:=rfl
theorem Us (aS:List V):E.ext 597 aS=none:=rfl
theorem Ut:E.fn 598=some PT:=rfl
theorem Uu (aS:List V):E.ext 598 aS=none:=rfl
theorem Uv:E.fn 599=some PV:=rfl
theorem Uw (aS:List V):E.ext 599 aS=none:=rfl
theorem Ux:E.fn 600=some PX:=rfl
theorem Uy (aS:List V):E.ext 600 aS=none:=rfl
theorem Uz:E.fn 601=some PZ:=rfl
theorem UA (aS:List V):E.ext 601 aS=none:=rfl
theorem UB:E.fn 602=some P1:=rfl
theorem UC (aS:List V):E.ext 602 aS=none:=rfl
theorem UD:E.fn 603=some P3:=rfl
theorem UE (aS:List V):E.ext 603 aS=none:=rfl
theorem UF:E.fn 604=some P5:=rfl
theorem UG (aS:List V):E.ext 604 aS=none:=rfl
theorem UH:E.fn 605=some P7:=rfl
theorem UI (aS:List V):E.ext 605 aS=none:=rfl
theorem UJ:E.fn 606=some P9:=rfl
theorem UK (aS:List V):E.ext 606 aS=none:=rfl
theorem FO:E.fn 612=some Qc:=rfl
theorem FP (aS:List V):E.ext 612 aS=none:=rfl
theorem ZW:E.fn 77=some f77:=rfl
theorem ZX (aS:List V):E.ext 77 aS=none:=rfl
theorem UL:E.fn 613=some Qf:=rfl
theorem UM (aS:List V):E.ext 613 aS=none:=rfl
theorem UN:E.fn 614=some Qh:=rfl
theorem UO (aS:List V):E.ext 614 aS=none:=rfl
theorem UP:E.fn 615=some Qj:=rfl
theorem UQ (aS:List V):E.ext 615 aS=none:=rfl
theorem CH:E.fn 616=some Ql:=rfl
theorem CI (aS:List V):E.ext 616 aS=none:=rfl
theorem UR:E.fn 610=some Qn:=rfl
theorem US (aS:List V):E.ext 610 aS=none:=rfl
theorem Ko:E.fn 617=some Qp:=rfl
theorem Kp (aS:List V):E.ext 617 aS=none:=rfl
theorem Kq:E.fn 618=some LK:=rfl
theorem UT (aS:List V):E.ext 618 aS=none:=rfl
theorem UU:E.fn 619=some Qs:=rfl
theorem UW (aS:List V):E.ext 619 aS=none:=rfl
theorem zl:E.fn 620=some Qu:=rfl
theorem zm (aS:List V):E.ext 620 aS=none:=rfl
theorem Kr:E.fn 621=some Qw:=rfl
theorem Ks (aS:List V):E.ext 621 aS=none:=rfl
theorem Kt:E.fn 277=some Qy:=rfl
theorem Ku (aS:List V):E.ext 277 aS=none:=rfl
theorem UX:E.fn 623=some QA:=rfl
theorem UY (aS:List V):E.ext 623 aS=none:=rfl
theorem UZ:E.fn 624=some QC:=rfl
theorem U0 (aS:List V):E.ext 624 aS=none:=rfl
theorem NV:E.fn 27=some f27:=rfl
theorem NW (aS:List V):E.ext 27 aS=none:=rfl
theorem ZY:E.fn 83=some f83:=rfl
theorem ZZ (aS:List V):E.ext 83 aS=none:=rfl
theorem U1:E.fn 84=some f84:=rfl
theorem U2 (aS:List V):E.ext 84 aS=none:=rfl
theorem Z0:E.fn 85=some f85:=rfl
theorem Z1 (aS:List V):E.ext 85 aS=none:=rfl
theorem Z2:E.fn 86=some f86:=rfl
theorem Z3 (aS:List V):E.ext 86 aS=none:=rfl
theorem Z4:E.fn 87=some f87:=rfl
theorem Z5 (aS:List V):E.ext 87 aS=none:=rfl
theorem U3:E.fn 162=some f162:=rfl
theorem U4 (aS:List V):E.ext 162 aS=none:=rfl
theorem U5:E.fn 628=some QF:=rfl
theorem U6 (aS:List V):E.ext 628 aS=none:=rfl
theorem zn:E.fn 629=some QH:=rfl
theorem zo (aS:List V):E.ext 629 aS=none:=rfl
theorem U7:E.fn 630=some QJ:=rfl
theorem U8 (aS:List V):E.ext 630 aS=none:=rfl
theorem U9:E.fn 631=some QL:=rfl
theorem Va (aS:List V):E.ext 631 aS=none:=rfl
theorem Vb:E.fn 632=some QN:=rfl
theorem Vc (aS:List V):E.ext 632 aS=none:=rfl
theorem Vd:E.fn 633=some QP:=rfl
theorem Ve (aS:List V):E.ext 633 aS=none:=rfl
theorem Vf:E.fn 625=some QR:=rfl
theorem Vg (aS:List V):E.ext 625 aS=none:=rfl
theorem Kv:E.fn 626=some QT:=rfl
theorem Kw (aS:List V):E.ext 626 aS=none:=rfl
theorem Vh:E.fn 627=some QV:=rfl
theorem Vi (aS:List V):E.ext 627 aS=none:=rfl
theorem Vj:E.fn 634=some QX:=rfl
theorem Vk (aS:List V):E.ext 634 aS=none:=rfl
theorem Kj:E.fn 635=some QZ:=rfl
theorem Kk (aS:List V):E.ext 635 aS=none:=rfl
theorem OW:E.fn 636=some Q1:=rfl
theorem OX (aS:List V):E.ext 636 aS=none:=rfl
theorem Vl:E.fn 287=some Q3:=rfl
theorem Vm (aS:List V):E.ext 287 aS=none:=rfl
theorem Kx:E.fn 288=some Q5:=rfl
theorem Ky (aS:List V):E.ext 288 aS=none:=rfl
theorem Vn:E.fn 289=some Q7:=rfl
theorem Vo (aS:List V):E.ext 289 aS=none:=rfl
theorem ZH:E.fn 37=some f37:=rfl
theorem ZI (aS:List V):E.ext 37 aS=none:=rfl
theorem ZJ:E.fn 38=some f38:=rfl
theorem ZK (aS:List V):E.ext 38 aS=none:=rfl
theorem Vp:E.fn 189=some Q9:=rfl
theorem Vq (aS:List V):E.ext 189 aS=none:=rfl
theorem Zy:E.fn 41=some f41:=rfl
theorem Zz (aS:List V):E.ext 41 aS=none:=rfl
theorem Vr:E.fn 113=some f113:=rfl
theorem Vs (aS:List V):E.ext 113 aS=none:=rfl
theorem Vt:E.fn 114=some f114:=rfl
theorem Vu (aS:List V):E.ext 114 aS=none:=rfl
theorem Vv:E.fn 115=some f115:=rfl
theorem Vw (aS:List V):E.ext 115 aS=none:=rfl
theorem Vx:E.fn 116=some f116:=rfl
theorem Vy (aS:List V):E.ext 116 aS=none:=rfl
theorem Vz:E.fn 117=some f117:=rfl
theorem VA (aS:List V):E.ext 117 aS=none:=rfl
theorem VB:E.fn 118=some f118:=rfl
theorem VC (aS:List V):E.ext 118 aS=none:=rfl
theorem Z6:E.fn 93=some f93:=rfl
theorem Z7 (aS:List V):E.ext 93 aS=none:=rfl
theorem VD:E.fn 119=some f119:=rfl
theorem VE (aS:List V):E.ext 119 aS=none:=rfl
theorem VF:E.fn 120=some f120:=rfl
theorem VG (aS:List V):E.ext 120 aS=none:=rfl
theorem OS:E.fn 121=some f121:=rfl
theorem OT (aS:List V):E.ext 121 aS=none:=rfl
theorem OU:E.fn 122=some f122:=rfl
theorem OV (aS:List V):E.ext 122 aS=none:=rfl
theorem VH:E.fn 639=some Rl:=rfl
theorem VI (aS:List V):E.ext 639 aS=none:=rfl
theorem VJ:E.fn 640=some Rn:=rfl
theorem VK (aS:List V):E.ext 640 aS=none:=rfl
theorem Kz:E.fn 525=some Rp:=rfl
theorem KA (aS:List V):E.ext 525 aS=none:=rfl
theorem KB:E.fn 486=some ID:=rfl
theorem KC (aS:List V):E.ext 486 aS=none:=rfl
theorem FQ:E.fn 641=some Rs:=rfl
theorem FR (aS:List V):E.ext 641 aS=none:=rfl
theorem VL:E.fn 88=some f88:=rfl
theorem VM (aS:List V):E.ext 88 aS=none:=rfl
theorem ZE:E.fn 33=some f33:=rfl
theorem ZF (aS:List V):E.ext 33 aS=none:=rfl
theorem VN:E.fn 642=some Ru:=rfl
theorem VO (aS:List V):E.ext 642 aS=none:=rfl
theorem Zv:E.fn 22=some f22:=rfl
theorem Zw (aS:List V):E.ext 22 aS=none:=rfl
theorem Zt:E.fn 23=some f23:=rfl
theorem Zu (aS:List V):E.ext 23 aS=none:=rfl
theorem VP:E.fn 638=some Rw:=rfl
theorem VQ (aS:List V):E.ext 638 aS=none:=rfl
theorem Kg:E.fn 575=some Ry:=rfl
theorem Kh (aS:List V):E.ext 575 aS=none:=rfl
theorem FD:E.fn 161=some f161:=rfl
theorem FE (aS:List V):E.ext 161 aS=none:=rfl
theorem Pj:E.fn 166=some f166:=rfl
theorem Pk (aS:List V):E.ext 166 aS=none:=rfl
theorem KD:E.fn 298=some RC:=rfl
theorem KE (aS:List V):E.ext 298 aS=none:=rfl
theorem KF:E.fn 299=some RE:=rfl
theorem KG (aS:List V):E.ext 299 aS=none:=rfl
theorem VR:E.fn 300=some RG:=rfl
theorem VS (aS:List V):E.ext 300 aS=none:=rfl
theorem VT:E.fn 227=some RI:=rfl
theorem VU (aS:List V):E.ext 227 aS=none:=rfl
theorem VV:E.fn 131=some f131:=rfl
theorem VW (aS:List V):E.ext 131 aS=none:=rfl
theorem OP:E.fn 163=some f163:=rfl
theorem OQ (aS:List V):E.ext 163 aS=none:=rfl
theorem ON:E.fn 164=some f164:=rfl
theorem OO (aS:List V):E.ext 164 aS=none:=rfl
theorem VX:E.fn 530=some LL:=rfl
theorem VY (aS:List V):E.ext 530 aS=none:=rfl
theorem VZ:E.fn 493=some LM:=rfl
theorem V0 (aS:List V):E.ext 493 aS=none:=rfl
theorem V1:E.fn 646=some RP:=rfl
theorem V2 (aS:List V):E.ext 646 aS=none:=rfl
theorem ZN:E.fn 91=some f91:=rfl
theorem ZO (aS:List V):E.ext 91 aS=none:=rfl
theorem V3:E.fn 647=some RR:=rfl
theorem V4 (aS:List V):E.ext 647 aS=none:=rfl
theorem V5:E.fn 648=some RT:=rfl
theorem V6 (aS:List V):E.ext 648 aS=none:=rfl
theorem V7:E.fn 649=some RV:=rfl
theorem V8 (aS:List V):E.ext 649 aS=none:=rfl
theorem V9:E.fn 650=some RX:=rfl
theorem Wa (aS:List V):E.ext 650 aS=none:=rfl
theorem FT:E.fn 536=some RZ:=rfl
theorem FU (aS:List V):E.ext 536 aS=none:=rfl
theorem Wb:E.fn 537=some R4:=rfl
theorem Wc (aS:List V):E.ext 537 aS=none:=rfl
theorem Wd:E.fn 538=some R6:=rfl
theorem We (aS:List V):E.ext 538 aS=none:=rfl
theorem Wf:E.fn 539=some R8:=rfl
theorem Wg (aS:List V):E.ext 539 aS=none:=rfl
theorem Wh:E.fn 488=some Sa:=rfl
theorem Wi (aS:List V):E.ext 488 aS=none:=rfl
theorem Wj:E.fn 503=some Sc:=rfl
theorem Wk (aS:List V):E.ext 503 aS=none:=rfl
theorem Z8:E.fn 92=some f92:=rfl
theorem Z9 (aS:List V):E.ext 92 aS=none:=rfl
theorem KH:E.fn 651=some Se:=rfl
theorem KI (aS:List V):E.ext 651 aS=none:=rfl
theorem Wl:E.fn 652=some Si:=rfl
theorem Wm (aS:List V):E.ext 652 aS=none:=rfl
theorem Wn:E.fn 653=some Sk:=rfl
theorem Wo (aS:List V):E.ext 653 aS=none:=rfl
theorem Wp:E.fn 654=some Sn:=rfl
theorem Wq (aS:List V):E.ext 654 aS=none:=rfl
theorem FG:E.fn 123=some f123:=rfl
theorem FH (aS:List V):E.ext 123 aS=none:=rfl
theorem Pf:E.fn 124=some f124:=rfl
theorem Pg (aS:List V):E.ext 124 aS=none:=rfl
theorem Wr:E.fn 655=some Sr:=rfl
theorem Ws (aS:List V):E.ext 655 aS=none:=rfl
theorem Zr:E.fn 36=some f36:=rfl
theorem Zs (aS:List V):E.ext 36 aS=none:=rfl
theorem Ka:E.fn 282=some Sv:=rfl
theorem Kb (aS:List V):E.ext 282 aS=none:=rfl
theorem Wt:E.fn 304=some Sx:=rfl
theorem Wu (aS:List V):E.ext 304 aS=none:=rfl
theorem Wv:E.fn 259=some Sz:=rfl
theorem Ww (aS:List V):E.ext 259 aS=none:=rfl
theorem Wx:E.fn 260=some SB:=rfl
theorem Wy (aS:List V):E.ext 260 aS=none:=rfl
theorem N9:E.fn 198=some SD:=rfl
theorem Oa (aS:List V):E.ext 198 aS=none:=rfl
theorem Ob:E.fn 199=some SF:=rfl
theorem Oc (aS:List V):E.ext 199 aS=none:=rfl
theorem Ot:E.fn 200=some SH:=rfl
theorem Ou (aS:List V):E.ext 200 aS=none:=rfl
theorem Ow:E.fn 201=some SJ:=rfl
theorem Ox (aS:List V):E.ext 201 aS=none:=rfl
theorem Oy:E.fn 202=some SL:=rfl
theorem Oz (aS:List V):E.ext 202 aS=none:=rfl
theorem Wz:E.fn 546=some SN:=rfl
theorem WA (aS:List V):E.ext 546 aS=none:=rfl
theorem FV:E.fn 528=some SP:=rfl
theorem FW (aS:List V):E.ext 528 aS=none:=rfl
theorem WB:E.fn 509=some SR:=rfl
theorem WC (aS:List V):E.ext 509 aS=none:=rfl
theorem WD:E.fn 490=some SV:=rfl
theorem WE (aS:List V):E.ext 490 aS=none:=rfl
theorem KJ:E.fn 660=some SX:=rfl
theorem KL (aS:List V):E.ext 660 aS=none:=rfl
theorem Pn:E.fn 129=some f129:=rfl
theorem Po (aS:List V):E.ext 129 aS=none:=rfl
theorem LF:E.fn 90=some f90:=rfl
theorem LG (aS:List V):E.ext 90 aS=none:=rfl
theorem O7:E.fn 548=some S4:=rfl
theorem O8 (aS:List V):E.ext 548 aS=none:=rfl
theorem WG:E.fn 549=some LN:=rfl
theorem WH (aS:List V):E.ext 549 aS=none:=rfl
theorem WI:E.fn 504=some S7:=rfl
theorem WJ (aS:List V):E.ext 504 aS=none:=rfl
theorem WK:E.fn 130=some f130:=rfl
theorem WL (aS:List V):E.ext 130 aS=none:=rfl
theorem WM:E.fn 661=some Ta:=rfl
theorem WN (aS:List V):E.ext 661 aS=none:=rfl
theorem WO:E.fn 662=some Tc:=rfl
theorem WQ (aS:List V):E.ext 662 aS=none:=rfl
theorem WR:E.fn 663=some Te:=rfl
theorem WT (aS:List V):E.ext 663 aS=none:=rfl
theorem WU:E.fn 280=some Ti:=rfl
theorem WV (aS:List V):E.ext 280 aS=none:=rfl
theorem Oo:E.fn 235=some Tk:=rfl
theorem Oq (aS:List V):E.ext 235 aS=none:=rfl
theorem Oj:E.fn 236=some Tm:=rfl
theorem Ok (aS:List V):E.ext 236 aS=none:=rfl
theorem Ol:E.fn 237=some To:=rfl
theorem Om (aS:List V):E.ext 237 aS=none:=rfl
theorem Og:E.fn 238=some Tq:=rfl
theorem Oi (aS:List V):E.ext 238 aS=none:=rfl
theorem OC:E.fn 542=some Ts:=rfl
theorem OD (aS:List V):E.ext 542 aS=none:=rfl
theorem NZ:E.fn 127=some f127:=rfl
theorem N0 (aS:List V):E.ext 127 aS=none:=rfl
theorem WW:E.fn 513=some Tv:=rfl
theorem WY (aS:List V):E.ext 513 aS=none:=rfl
theorem Pl:E.fn 128=some f128:=rfl
theorem Pm (aS:List V):E.ext 128 aS=none:=rfl
theorem O3:E.fn 559=some Ty:=rfl
theorem O4 (aS:List V):E.ext 559 aS=none:=rfl
theorem O5:E.fn 560=some TA:=rfl
theorem O6 (aS:List V):E.ext 560 aS=none:=rfl
theorem OY:E.fn 561=some TC:=rfl
theorem OZ (aS:List V):E.ext 561 aS=none:=rfl
theorem Pd:E.fn 562=some TE:=rfl
theorem Pe (aS:List V):E.ext 562 aS=none:=rfl
theorem O9:E.fn 563=some TG:=rfl
theorem Pa (aS:List V):E.ext 563 aS=none:=rfl
theorem WZ:E.fn 669=some TI:=rfl
theorem W2 (aS:List V):E.ext 669 aS=none:=rfl
theorem W3:E.fn 670=some TK:=rfl
theorem W4 (aS:List V):E.ext 670 aS=none:=rfl
theorem N7:E.fn 270=some TN:=rfl
theorem N8 (aS:List V):E.ext 270 aS=none:=rfl
theorem Od:E.fn 271=some TP:=rfl
theorem Oe (aS:List V):E.ext 271 aS=none:=rfl
theorem OA:E.fn 576=some TR:=rfl
theorem OB (aS:List V):E.ext 576 aS=none:=rfl
theorem OE:E.fn 577=some TU:=rfl
theorem OF (aS:List V):E.ext 577 aS=none:=rfl
theorem OG:E.fn 578=some TX:=rfl
theorem OH (aS:List V):E.ext 578 aS=none:=rfl
theorem OK:E.fn 579=some TZ:=rfl
theorem OL (aS:List V):E.ext 579 aS=none:=rfl
theorem OI:E.fn 580=some T4:=rfl
theorem OJ (aS:List V):E.ext 580 aS=none:=rfl
theorem Pb:E.fn 581=some T6:=rfl
theorem Pc (aS:List V):E.ext 581 aS=none:=rfl
theorem N1:E.fn 283=some T8:=rfl
theorem N2 (aS:List V):E.ext 283 aS=none:=rfl
theorem N5:E.fn 284=some Ua:=rfl
theorem N6 (aS:List V):E.ext 284 aS=none:=rfl
theorem N3:E.fn 285=some Uc:=rfl
theorem N4 (aS:List V):E.ext 285 aS=none:=rfl
theorem ZP (aS:List V):E.ext 31 aS=tK 7 1927910799188 aS:=rfl
theorem Zx (aS:List V):E.ext 52 aS=yP aS:=rfl
end Go.AM
