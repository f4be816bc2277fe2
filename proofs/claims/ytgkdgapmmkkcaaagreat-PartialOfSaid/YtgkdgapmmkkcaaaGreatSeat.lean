/-
  Texts of the proof, joined by program: AmTrPo. Own work.
-/
import Derived.Test.YtgkdgapmmkkcaaaGreatFns
import Derived.Test.YtgkdgapmmkkcaaaGreatOpsC
import Derived.Test.YtgkdgapmmkkcaaaGreatSx
import Derived.Test.YtgkdgapmmkkcaaaGreatRows
set_option linter.unusedSimpArgs false
set_option linter.unusedVariables false
set_option maxRecDepth 100000
namespace Go.AM
open Go.Proofs
def vb:Go.Shelf.Ren:=⟨fun| 54=>59| 64=>79| 65=>78| 78=>114| 79=>115| 80=>105| 81=>106| 82=>107| 83=>108| 84=>109| 85=>110| 61=>111| 86=>112| 87=>113| 93=>144| 89=>145| 90=>146| 94=>147| 95=>148| 69=>149| 97=>163| n=>n,fun| 25=>43| 26=>9| 3=>3| 51=>145| 0=>0| 67=>190| 69=>192| 4=>4| 61=>183| 60=>182| 44=>111| 5=>5| 9=>9| 75=>209| 79=>213| 83=>223| 84=>193| n=>n,fun| n=>n⟩
theorem Rz:Go.Proofs.SlLaysN.n54 Tryz.prog vb:={
 mixed:=by kernel_rfl
 f54:=⟨Tryz.f59.name,by decide,Tryz.func59.trans (congrArg some (by kernel_rfl))⟩
 f61:=⟨Tryz.f111.name,by decide,Tryz.func111.trans (congrArg some (by kernel_rfl))⟩
 f64:=Tryz.func79.trans (congrArg some (by kernel_rfl))
 f65:=⟨Tryz.f78.name,by decide,Tryz.func78.trans (congrArg some (by kernel_rfl))⟩
 f69:=⟨Tryz.f149.name,by decide,Tryz.func149.trans (congrArg some (by kernel_rfl))⟩
 f78:=Tryz.func114.trans (congrArg some (by kernel_rfl))
 f79:=Tryz.func115.trans (congrArg some (by kernel_rfl))
 f80:=⟨Tryz.f105.name,by decide,Tryz.func105.trans (congrArg some (by kernel_rfl))⟩
 f81:=⟨Tryz.f106.name,by decide,Tryz.func106.trans (congrArg some (by kernel_rfl))⟩
 f82:=⟨Tryz.f107.name,by decide,Tryz.func107.trans (congrArg some (by kernel_rfl))⟩
 f83:=⟨Tryz.f108.name,by decide,Tryz.func108.trans (congrArg some (by kernel_rfl))⟩
 f84:=⟨Tryz.f109.name,by decide,Tryz.func109.trans (congrArg some (by kernel_rfl))⟩
 f85:=⟨Tryz.f110.name,by decide,Tryz.func110.trans (congrArg some (by kernel_rfl))⟩
 f86:=⟨Tryz.f112.name,by decide,Tryz.func112.trans (congrArg some (by kernel_rfl))⟩
 f87:=⟨Tryz.f113.name,by decide,Tryz.func113.trans (congrArg some (by kernel_rfl))⟩
 f89:=Tryz.func145.trans (congrArg some (by kernel_rfl))
 f90:=Tryz.func146.trans (congrArg some (by kernel_rfl))
 f93:=⟨Tryz.f144.name,by decide,Tryz.func144.trans (congrArg some (by kernel_rfl))⟩
 f94:=⟨Tryz.f147.name,by decide,Tryz.func147.trans (congrArg some (by kernel_rfl))⟩
 f95:=⟨Tryz.f148.name,by decide,Tryz.func148.trans (congrArg some (by kernel_rfl))⟩
 f97:=⟨Tryz.f163.name,by decide,Tryz.func163.trans (congrArg some (by kernel_rfl))⟩
 t0:=Tryz.underlying0
 a0:=Tryz.isAgg0
 z0:=Tryz.sizeOf0
 v0:=Tryz.zeroValue0
 t3:=Tryz.underlying3
 a3:=Tryz.isAgg3
 z3:=Tryz.sizeOf3
 v3:=Tryz.zeroValue3
 t4:=Tryz.underlying4
 a4:=Tryz.isAgg4
 z4:=Tryz.sizeOf4
 v4:=Tryz.zeroValue4
 t5:=Tryz.underlying5
 a5:=Tryz.isAgg5
 z5:=Tryz.sizeOf5
 v5:=Tryz.zeroValue5
 t9:=Tryz.underlying9
 a9:=Tryz.isAgg9
 z9:=Tryz.sizeOf9
 v9:=Tryz.zeroValue9
 t25:=Tryz.underlying43
 a25:=Tryz.isAgg43
 z25:=Tryz.sizeOf43
 v25:=Tryz.zeroValue43
 t26:=Tryz.underlying9
 a26:=Tryz.isAgg9
 z26:=Tryz.sizeOf9
 v26:=Tryz.zeroValue9
 t44:=Tryz.underlying111
 a44:=Tryz.isAgg111
 z44:=Tryz.sizeOf111
 v44:=Tryz.zeroValue111
 t51:=Tryz.underlying145
 a51:=Tryz.isAgg145
 z51:=Tryz.sizeOf145
 v51:=Tryz.zeroValue145
 t60:=Tryz.underlying182
 a60:=Tryz.isAgg182
 z60:=Tryz.sizeOf182
 v60:=Tryz.zeroValue182
 t61:=Tryz.underlying183
 a61:=Tryz.isAgg183
 z61:=Tryz.sizeOf183
 v61:=Tryz.zeroValue183
 t67:=Tryz.underlying190
 a67:=Tryz.isAgg190
 z67:=Tryz.sizeOf190
 v67:=Tryz.zeroValue190
 t69:=Tryz.underlying192
 a69:=Tryz.isAgg192
 z69:=Tryz.sizeOf192
 v69:=Tryz.zeroValue192
 t75:=Tryz.underlying209
 a75:=Tryz.isAgg209
 z75:=Tryz.sizeOf209
 v75:=Tryz.zeroValue209
 t79:=Tryz.underlying213
 a79:=Tryz.isAgg213
 z79:=Tryz.sizeOf213
 v79:=Tryz.zeroValue213
 t83:=Tryz.underlying223
 a83:=Tryz.isAgg223
 z83:=Tryz.sizeOf223
 v83:=Tryz.zeroValue223
 t84:=Tryz.underlying193
 a84:=Tryz.isAgg193
 z84:=Tryz.sizeOf193
 v84:=Tryz.zeroValue193}
def Ak:List Nat:=[0,1,2,445,311,77,79,446,447,448,331,322,83,84,85,86,87,92,93,94,95,449,450,451,452,453,454,455,456,457,458,459,460,461,462,317,366,319,320,346,347,348,349,350,113,114,115,116,117,118,119,120,121,122,130,131,27,429,430,463,464,338,339,340,400,343,344,390,391,392,393,394,395,161,162,163,164,41,465,40,370,371,372,373,374,375,376,377,378,379,380,381,422,423,341,387,405,404,418,198,199,200,201,202,52,466,467,468,469,470,471,472,473,474,50,51,401,402,259,403,406,407,408,409,410,411,412,413,414,431,432,433,434,435,436,382,383,416,424,425,235,236,237,238,475,54,55,476,477,478,280,426,427,428,439,440,441,415,389,351,437,270,271,479,438,369,336,335,282,283,284,285,59,60,61,62,63,64,65,66,67,68,69,70,71,72,73,74]
def Al:List (Nat×Nat):=[(2,2),(3,3),(4,4),(5,5),(6,6),(9,9),(10,10),(11,11),(12,12),(21,21)]
noncomputable def X0:TrEnv:=⟨Tryz.prog,fun F=>Ak[F]?,fun t=> (Al.find? (·.1==t)).map (·.2)⟩
theorem RA:aw X0 ⟨[],[],[],[(8,[4,5,8,7]),(45,[4,5,8,7]),(11,[4,5,8,7])],[],[],[],[],[],[],none,[],0⟩ Tryz.f3=some Hr:=by kernel_rfl
theorem RB:aw X0 ⟨[],[],[],[(18,[0,0,0,1])],[],[(3,19,65)],[],[],[],[],none,[],0⟩ Tryz.f4=some Ht:=by kernel_rfl
theorem WQ:aw X0 ⟨[],[13,67,72],[],[(2,[4,5,8,7]),(3,[4,5,8,7]),(20,[1,0])],[],[],[],[],[],[],none,[],0⟩ Tryz.f5=some f77:=by kernel_rfl
theorem WR:aw X0 ⟨[],[11,38],[(212,100),(333,101),(371,101)],[(4,[4,5,8,7]),(5,[4,5,0,0]),(210,[0,2,0,0,0,0,0,0]),(373,[4,5,8,7])],[],[],[],[],[],[],none,[],0⟩ Tryz.f6=some f79:=by kernel_rfl
theorem RC:aw X0 ⟨[],[],[],[],[],[],[],[],[],[],none,[],0⟩ Tryz.f7=some Hx:=by kernel_rfl
theorem RD:aw X0 ⟨[],[],[(88,145),(101,145),(114,145),(130,257),(135,273),(140,289),(145,321),(150,337),(156,305),(178,417)],[(4,[4]),(12,[0,2,0,0,0,0,0,0]),(24,[0,0,0,1])],[(8,145,9),(15,257,1),(16,273,1),(17,289,1),(18,305,1),(19,321,1),(20,337,1)],[(7,76,129),(8,88,145),(8,101,145),(8,114,145),(15,130,257),(16,135,273),(17,140,289),(19,145,321),(20,150,337),(18,156,305),(25,175,417)],[],[],[],[],none,[],0⟩ Tryz.f8=some Hz:=by kernel_rfl
theorem RE:aw X0 ⟨[],[],[(34,97),(50,97),(66,97),(186,193)],[(4,[4]),(73,[0,0,0,1]),(78,[0,0,0,1]),(79,[0,0,0,1]),(85,[0,0,0,1]),(86,[0,0,0,1]),(87,[0,0,0,1]),(88,[0,0,0,1]),(89,[0,0,0,1]),(90,[0,0,0,1])],[(5,97,9)],[(5,34,97),(5,50,97),(5,66,97),(10,80,177),(11,91,193)],[],[],[],[],none,[],0⟩ Tryz.f9=some HB:=by kernel_rfl
theorem RF:aw X0 ⟨[],[],[],[(13,[0,0,0,1]),(15,[0,0,0,1]),(16,[0,0,0,1])],[],[(9,17,161)],[],[],[],[],none,[],0⟩ Tryz.f10=some MN:=by kernel_rfl
theorem RG:aw X0 ⟨[],[],[],[],[],[],[],[],[],[],none,[],0⟩ Tryz.f11=some MO:=by kernel_rfl
theorem WS:aw X0 ⟨[],[143,180,204,207],[],[(2,[4]),(3,[5]),(4,[1]),(5,[1]),(6,[1]),(40,[1,0]),(105,[1,0])],[(14,241,4)],[(14,143,241),(14,180,241),(14,204,241)],[],[],[],[],none,[],0⟩ Tryz.f12=some f83:=by kernel_rfl
theorem WT:aw X0 ⟨[],[],[],[(4,[1])],[],[],[],[],[],[],none,[],0⟩ Tryz.f13=some f84:=by kernel_rfl
theorem WU:aw X0 ⟨[some 2,none],[],[],[],[],[],[],[],[],[],none,[],0⟩ Tryz.f14=some f85:=by kernel_rfl
theorem WV:aw X0 ⟨[],[31,50,61,69],[],[(2,[8]),(9,[1,0])],[(4,81,8)],[(4,31,81),(4,50,81),(4,61,81),(4,69,81)],[],[],[],[],none,[],0⟩ Tryz.f15=some f86:=by kernel_rfl
theorem WW:aw X0 ⟨[],[],[(86,113)],[(14,[1,0])],[(4,81,7),(6,113,7)],[(6,86,113)],[],[],[],[],none,[],0⟩ Tryz.f16=some f87:=by kernel_rfl
theorem WX:aw X0 ⟨[],[],[(37,66),(59,68)],[(2,[4,5,8,7]),(16,[0,5,0,7]),(3,[0,5,0,7]),(5,[0,2,0,0]),(7,[0,2,0,0,0,0,0,0])],[],[],[],[],[],[],none,[],0⟩ Tryz.f17=some f92:=by kernel_rfl
theorem WY:aw X0 ⟨[],[],[],[],[],[],[],[],[],[],none,[],0⟩ Tryz.f18=some f93:=by kernel_rfl
theorem WZ:aw X0 ⟨[],[],[(36,145),(214,193),(240,145)],[(10,[0,2,0,0]),(238,[0,2,0,0])],[(6,113,4),(7,129,5),(8,145,4)],[(8,36,145),(11,39,193),(8,188,145),(11,214,193),(8,240,145)],[(28,9)],[35,36,188],[6],[],none,[],0⟩ Tryz.f19=some f94:=by kernel_rfl
theorem W2:aw X0 ⟨[],[],[],[],[],[],[],[],[],[],none,[],0⟩ Tryz.f20=some f95:=by kernel_rfl
theorem RH:aw X0 ⟨[],[],[],[],[],[],[],[],[],[],none,[],0⟩ Tryz.f21=some HR:=by kernel_rfl
theorem RI:aw X0 ⟨[],[],[],[],[],[],[],[],[],[],none,[],0⟩ Tryz.f22=some HT:=by kernel_rfl
theorem RJ:aw X0 ⟨[],[],[],[(4,[0,0,0,1]),(10,[0,0,0,1])],[],[],[],[],[],[],none,[],0⟩ Tryz.f23=some HV:=by kernel_rfl
theorem RK:aw X0 ⟨[],[],[],[],[],[],[],[],[],[],none,[],0⟩ Tryz.f24=some HX:=by kernel_rfl
theorem RL:aw X0 ⟨[],[],[],[],[],[],[],[],[],[],none,[],0⟩ Tryz.f25=some HZ:=by kernel_rfl
theorem RM:aw X0 ⟨[],[],[],[],[],[],[],[],[],[],none,[],0⟩ Tryz.f26=some H2:=by kernel_rfl
theorem RN:aw X0 ⟨[none,some 1],[],[],[(4,[0,0,0,1]),(10,[0,0,0,1])],[],[],[],[],[],[],none,[],0⟩ Tryz.f27=some H4:=by kernel_rfl
theorem RO:aw X0 ⟨[],[],[],[],[],[],[],[],[],[],none,[],0⟩ Tryz.f28=some H6:=by kernel_rfl
theorem RP:aw X0 ⟨[],[],[],[],[],[],[],[],[],[],none,[],0⟩ Tryz.f29=some H8:=by kernel_rfl
theorem RQ:aw X0 ⟨[],[],[],[],[],[],[],[],[],[],none,[],0⟩ Tryz.f30=some Ia:=by kernel_rfl
theorem RR:aw X0 ⟨[],[],[],[],[],[],[],[],[],[],none,[],0⟩ Tryz.f31=some Ic:=by kernel_rfl
theorem RS:aw X0 ⟨[],[],[],[],[],[],[],[],[],[],none,[],0⟩ Tryz.f32=some Ig:=by kernel_rfl
theorem RT:aw X0 ⟨[],[],[],[],[],[],[],[],[],[],none,[],0⟩ Tryz.f33=some Ii:=by kernel_rfl
theorem RU:aw X0 ⟨[],[],[],[(4,[1])],[],[],[],[],[],[],none,[],0⟩ Tryz.f34=some Ik:=by kernel_rfl
theorem RV:aw X0 ⟨[],[],[],[(9,[0,0,1,0,0])],[],[],[],[],[],[],none,[],0⟩ Tryz.f35=some MX:=by kernel_rfl
theorem RW:aw X0 ⟨[],[],[],[(2,[0,0,0,0,0,0,7]),(3,[0,0,0,0,0,0,7])],[],[],[],[],[],[],none,[],0⟩ Tryz.f36=some MY:=by kernel_rfl
theorem RX:aw X0 ⟨[],[],[],[],[],[],[],[],[],[],none,[],0⟩ Tryz.f37=some MZ:=by kernel_rfl
theorem RY:aw X0 ⟨[],[],[],[(4,[0,0,0,0,0,0,7])],[],[],[],[],[],[],none,[],0⟩ Tryz.f38=some M0:=by kernel_rfl
theorem RZ:aw X0 ⟨[],[],[],[],[],[],[],[],[],[],none,[],0⟩ Tryz.f39=some M1:=by kernel_rfl
theorem R0:aw X0 ⟨[],[],[],[(10,[0,0,0,0,0,0,7])],[],[],[],[],[],[],none,[],0⟩ Tryz.f40=some M3:=by kernel_rfl
theorem R3:aw X0 ⟨[],[],[],[],[],[],[],[],[],[],none,[],0⟩ Tryz.f41=some M4:=by kernel_rfl
theorem R4:aw X0 ⟨[],[],[],[],[],[],[],[],[],[],none,[],0⟩ Tryz.f42=some M5:=by kernel_rfl
theorem R5:aw X0 ⟨[],[],[],[(2,[0,0,1,0,0]),(10,[0,0,1,0,0]),(21,[0,0,1,0,0])],[],[],[],[],[],[],none,[],0⟩ Tryz.f43=some M6:=by kernel_rfl
theorem R6:aw X0 ⟨[some 4,none,none,none,some 2],[],[(31,17)],[(22,[0,2,0,0]),(11,[0,2,0,0])],[(10,177,4)],[],[],[],[],[],none,[],0⟩ Tryz.f44=some f113:=by kernel_rfl
theorem R7:aw X0 ⟨[none,none,some 2],[],[(71,129),(75,129)],[(6,[2])],[],[(7,14,129),(7,71,129)],[],[],[],[],none,[],0⟩ Tryz.f45=some f114:=by kernel_rfl
theorem R8:aw X0 ⟨[],[],[],[],[],[],[],[],[],[],none,[],0⟩ Tryz.f46=some f115:=by kernel_rfl
theorem R9:aw X0 ⟨[],[],[],[],[],[],[],[],[],[],none,[],0⟩ Tryz.f47=some f116:=by kernel_rfl
theorem Sa:aw X0 ⟨[some 4,none,none,some 2],[95],[],[(8,[4])],[],[(10,50,177),(10,90,177)],[],[],[],[],none,[],0⟩ Tryz.f48=some f117:=by kernel_rfl
theorem Sb:aw X0 ⟨[],[],[(52,97)],[(3,[1])],[(2,49,5),(5,97,5)],[(3,25,65),(3,38,65),(5,52,97)],[],[],[],[],none,[],0⟩ Tryz.f49=some f118:=by kernel_rfl
theorem Sc:aw X0 ⟨[some 8,none,none,none,some 2],[],[(84,195),(90,195),(122,17)],[(10,[8])],[],[],[],[],[],[],none,[],0⟩ Tryz.f50=some f119:=by kernel_rfl
theorem Sd:aw X0 ⟨[],[],[],[],[],[],[],[],[],[],none,[],0⟩ Tryz.f51=some f120:=by kernel_rfl
theorem Se:aw X0 ⟨[],[],[],[],[],[],[],[],[],[],none,[],0⟩ Tryz.f52=some f121:=by kernel_rfl
theorem Sg:aw X0 ⟨[],[],[],[],[],[],[],[],[],[],none,[],0⟩ Tryz.f53=some f122:=by kernel_rfl
theorem Si:aw X0 ⟨[],[],[],[(2,[2])],[],[],[],[],[],[],none,[],0⟩ Tryz.f54=some f130:=by kernel_rfl
theorem Sj:aw X0 ⟨[],[],[(28,67)],[(2,[0,2,0,0]),(30,[0,2,0,0])],[],[],[],[],[],[],none,[],0⟩ Tryz.f55=some f131:=by kernel_rfl
theorem W3:aw X0 ⟨[],[],[],[],[],[],[],[],[],[],none,[],0⟩ Tryz.f56=some f27:=by kernel_rfl
theorem Sk:aw X0 ⟨[],[],[],[],[],[],[],[],[],[],none,[],0⟩ Tryz.f57=some IK:=by kernel_rfl
theorem Sl:aw X0 ⟨[],[],[],[],[],[],[],[],[],[],none,[],0⟩ Tryz.f58=some IM:=by kernel_rfl
theorem Sm:aw X0 ⟨[some 1],[],[],[],[],[],[],[],[],[],none,[],0⟩ Tryz.f59=some M8:=by kernel_rfl
theorem Sn:aw X0 ⟨[some 1],[],[],[(2,[1])],[],[],[],[],[],[],none,[],0⟩ Tryz.f60=some IQ:=by kernel_rfl
theorem Sp:aw X0 ⟨[],[],[],[],[],[],[],[],[],[],none,[],0⟩ Tryz.f61=some M9:=by kernel_rfl
theorem Sq:aw X0 ⟨[],[16],[],[(26,[0,0,1,0,0]),(6,[0,0,1,0,0]),(7,[0,0,1,0,0]),(9,[0,0,0,1]),(48,[0,0,1,0,0])],[],[(5,18,97)],[],[],[],[2],none,[],0⟩ Tryz.f62=some Na:=by kernel_rfl
theorem Sr:aw X0 ⟨[],[],[],[(4,[0,0,1,0,0]),(5,[0,0,1,0,0]),(36,[0,0,1,0,0]),(6,[0,0,1,0,0])],[],[(7,78,129)],[],[],[],[],none,[],0⟩ Tryz.f63=some Nb:=by kernel_rfl
theorem Ss:aw X0 ⟨[],[],[],[(2,[0,0,0,0,0,0,7]),(13,[0,0,0,0,0,0,7]),(21,[0,0,0,0,0,0,7]),(23,[1,0]),(7,[0,0,0,0,0,0,7]),(39,[0,0,0,0,0,0,7]),(47,[0,0,0,0,0,0,7])],[],[],[],[],[],[],none,[],0⟩ Tryz.f64=some Nc:=by kernel_rfl
theorem Su:aw X0 ⟨[],[],[(20,37)],[(2,[0,0,0,0,0,0,7]),(5,[0,0,0,0,0,0,7])],[],[],[],[],[],[],none,[],0⟩ Tryz.f65=some Nd:=by kernel_rfl
theorem Sv:aw X0 ⟨[],[],[(120,69)],[(4,[0,0,0,0,0,0,7]),(7,[0,0,0,0,0,0,7]),(9,[0,0,1,0,0]),(14,[0,0,0,0,0,0,7])],[],[],[],[],[],[],none,[],0⟩ Tryz.f66=some Nf:=by kernel_rfl
theorem Sw:aw X0 ⟨[],[],[],[],[],[],[],[],[],[],none,[],0⟩ Tryz.f67=some Ng:=by kernel_rfl
theorem Sx:aw X0 ⟨[],[],[],[],[],[],[],[],[],[],none,[],0⟩ Tryz.f68=some Nh:=by kernel_rfl
theorem Sy:aw X0 ⟨[],[],[(23,97)],[(7,[0,0,0,0,0,0,7])],[(5,97,1)],[(5,23,97)],[],[],[],[],none,[],0⟩ Tryz.f69=some Ni:=by kernel_rfl
theorem Sz:aw X0 ⟨[],[],[],[],[],[],[],[],[],[],none,[],0⟩ Tryz.f70=some Nj:=by kernel_rfl
theorem SA:aw X0 ⟨[],[],[],[(0,[0,0,1,0,0]),(1,[0,0,1,0,0])],[],[],[],[],[],[],none,[],0⟩ Tryz.f71=some Nk:=by kernel_rfl
theorem SB:aw X0 ⟨[],[],[],[(0,[0,0,1,0,0]),(1,[0,0,1,0,0])],[],[],[],[],[],[],none,[],0⟩ Tryz.f72=some Nl:=by kernel_rfl
theorem SC:aw X0 ⟨[],[],[],[],[],[],[],[],[],[],none,[],0⟩ Tryz.f73=some f161:=by kernel_rfl
theorem SD:aw X0 ⟨[],[],[(43,113)],[(4,[1])],[],[(6,39,113)],[],[],[],[],none,[],0⟩ Tryz.f74=some f162:=by kernel_rfl
theorem SE:aw X0 ⟨[],[],[],[],[],[],[],[],[],[],none,[],0⟩ Tryz.f75=some f163:=by kernel_rfl
theorem SF:aw X0 ⟨[],[],[(51,99),(56,65)],[],[(2,49,4),(3,65,4)],[(3,56,65)],[],[],[],[],none,[],0⟩ Tryz.f76=some f164:=by kernel_rfl
theorem W4:aw X0 ⟨[],[],[],[],[],[],[],[],[],[],none,[],0⟩ Tryz.f77=some f41:=by kernel_rfl
theorem SG:aw X0 ⟨[],[],[],[(5,[0,0,0,0,0,0,7])],[],[],[],[],[],[],none,[],0⟩ Tryz.f80=some Nn:=by kernel_rfl
theorem SH:aw X0 ⟨[],[],[],[(7,[0,0,0,0,0,0,7])],[],[],[],[],[],[],none,[],0⟩ Tryz.f81=some No:=by kernel_rfl
theorem SI:aw X0 ⟨[some 4,none],[],[],[(4,[4]),(7,[0,0,0,1])],[],[],[],[],[],[],none,[],0⟩ Tryz.f82=some Np:=by kernel_rfl
theorem SJ:aw X0 ⟨[],[],[],[],[],[],[],[],[],[],none,[],0⟩ Tryz.f84=some Nq:=by kernel_rfl
theorem SK:aw X0 ⟨[],[],[],[(7,[0,0,0,0,0,0,7])],[],[],[],[],[],[],none,[],0⟩ Tryz.f85=some Nr:=by kernel_rfl
theorem SL:aw X0 ⟨[],[],[(37,68)],[(2,[0,0,1,0,0])],[],[],[],[],[],[],none,[],0⟩ Tryz.f86=some Ns:=by kernel_rfl
theorem SM:aw X0 ⟨[],[],[],[(0,[0,0,1,0,0]),(1,[0,0,1,0,0])],[],[],[],[],[],[],none,[],0⟩ Tryz.f87=some Nt:=by kernel_rfl
theorem SN:aw X0 ⟨[],[33],[(48,97)],[(4,[0,0,1,0,0]),(21,[0,0,1,0,0]),(30,[0,0,1,0,0]),(51,[0,0,1,0,0])],[],[(5,33,97),(5,48,97)],[],[],[],[],none,[],0⟩ Tryz.f88=some Nu:=by kernel_rfl
theorem SO:aw X0 ⟨[],[],[],[(0,[2])],[],[],[],[],[],[],none,[],0⟩ Tryz.f89=some Nv:=by kernel_rfl
theorem SP:aw X0 ⟨[],[],[],[],[],[],[],[],[],[],none,[],0⟩ Tryz.f90=some Nw:=by kernel_rfl
theorem SQ:aw X0 ⟨[],[],[],[],[],[],[],[],[],[],none,[],0⟩ Tryz.f91=some Nx:=by kernel_rfl
theorem SR:aw X0 ⟨[],[],[(23,81)],[],[(2,49,1),(4,81,1)],[(4,23,81)],[],[],[],[],none,[],0⟩ Tryz.f92=some Ny:=by kernel_rfl
theorem SU:aw X0 ⟨[some 2],[],[],[(2,[0,0,0,0,0,0,7]),(11,[0,0,0,0,0,0,7]),(20,[0,0,0,0,0,0,7]),(3,[0,0,0,0,0,0,7]),(4,[0,0,0,0,0,0,7]),(39,[0,0,0,0,0,0,7]),(5,[0,0,0,0,0,0,7]),(59,[0,0,0,0,0,0,7])],[],[],[],[],[],[],none,[],0⟩ Tryz.f93=some Nz:=by kernel_rfl
theorem SV:aw X0 ⟨[],[],[],[],[],[],[],[],[],[],none,[],0⟩ Tryz.f94=some NA:=by kernel_rfl
theorem SW:aw X0 ⟨[],[],[],[(6,[0,0,0,0,0,0,7]),(8,[0,0,1,0,0]),(17,[0,0,0,0,0,0,7]),(9,[0,0,0,0,0,0,7]),(29,[0,0,0,0,0,0,7])],[],[],[],[],[],[],none,[],0⟩ Tryz.f95=some NB:=by kernel_rfl
theorem SX:aw X0 ⟨[],[],[],[],[],[],[],[],[],[],none,[],0⟩ Tryz.f96=some NC:=by kernel_rfl
theorem SY:aw X0 ⟨[],[],[],[],[],[],[],[],[],[],none,[],0⟩ Tryz.f97=some ND:=by kernel_rfl
theorem SZ:aw X0 ⟨[],[],[],[],[],[],[],[],[],[],none,[],0⟩ Tryz.f98=some NF:=by kernel_rfl
theorem S4:aw X0 ⟨[],[],[],[],[],[],[],[],[],[],none,[],0⟩ Tryz.f99=some Jr:=by kernel_rfl
theorem S5:aw X0 ⟨[],[],[],[],[],[],[],[],[],[],none,[],0⟩ Tryz.f100=some Jt:=by kernel_rfl
theorem S6:aw X0 ⟨[],[],[],[],[],[],[],[],[],[],none,[],0⟩ Tryz.f101=some Jv:=by kernel_rfl
theorem S7:aw X0 ⟨[],[],[],[],[],[],[],[],[],[],none,[],0⟩ Tryz.f102=some Jy:=by kernel_rfl
theorem S8:aw X0 ⟨[],[],[],[],[],[],[],[],[],[],none,[],0⟩ Tryz.f103=some JA:=by kernel_rfl
theorem S9:aw X0 ⟨[],[],[],[],[],[],[],[],[],[],none,[],0⟩ Tryz.f116=some NG:=by kernel_rfl
theorem Ta:aw X0 ⟨[],[],[],[],[],[],[],[],[],[],none,[],0⟩ Tryz.f117=some NH:=by kernel_rfl
theorem Tb:aw X0 ⟨[],[],[],[],[],[],[],[],[],[],none,[],0⟩ Tryz.f118=some NI:=by kernel_rfl
theorem Tc:aw X0 ⟨[],[],[],[],[],[],[],[],[],[],none,[],0⟩ Tryz.f119=some NJ:=by kernel_rfl
theorem Td:aw X0 ⟨[],[],[],[],[],[],[],[],[],[],none,[],0⟩ Tryz.f120=some NK:=by kernel_rfl
theorem Te:aw X0 ⟨[],[],[],[(4,[0,0,1,0,0]),(15,[0,0,1,0,0])],[],[],[],[],[],[],none,[],0⟩ Tryz.f122=some NL:=by kernel_rfl
theorem Tf:aw X0 ⟨[],[],[],[(4,[0,0,1,0,0]),(15,[0,0,1,0,0])],[],[],[],[],[],[],none,[],0⟩ Tryz.f123=some NM:=by kernel_rfl
theorem Th:aw X0 ⟨[],[],[],[(4,[0,0,1,0,0])],[],[],[],[],[],[],none,[],0⟩ Tryz.f124=some NN:=by kernel_rfl
theorem Ti:aw X0 ⟨[],[],[],[(4,[0,0,1,0,0])],[],[],[],[],[],[],none,[],0⟩ Tryz.f125=some NO:=by kernel_rfl
theorem Tj:aw X0 ⟨[],[],[],[(4,[0,0,1,0,0]),(17,[0,0,1,0,0])],[],[],[],[],[],[],none,[],0⟩ Tryz.f126=some NP:=by kernel_rfl
theorem Tk:aw X0 ⟨[],[],[],[(4,[0,0,1,0,0]),(17,[0,0,1,0,0])],[],[],[],[],[],[],none,[],0⟩ Tryz.f127=some NQ:=by kernel_rfl
theorem Tl:aw X0 ⟨[],[],[],[(4,[0,0,1,0,0]),(35,[0,0,1,0,0])],[],[(5,30,97)],[],[],[],[],none,[],0⟩ Tryz.f128=some NR:=by kernel_rfl
theorem Tm:aw X0 ⟨[],[],[],[],[],[],[],[],[],[],none,[],0⟩ Tryz.f129=some NS:=by kernel_rfl
theorem Tn:aw X0 ⟨[some 2],[],[],[],[],[],[],[],[],[],none,[],0⟩ Tryz.f130=some NT:=by kernel_rfl
theorem To:aw X0 ⟨[some 2,none],[],[],[],[],[],[],[],[],[],none,[],0⟩ Tryz.f131=some NU:=by kernel_rfl
theorem Tp:aw X0 ⟨[some 2],[],[],[(2,[0,0,0,0,0,0,7]),(15,[0,0,0,0,0,0,7]),(4,[0,0,0,0,0,0,7]),(33,[0,0,0,0,0,0,7]),(6,[0,0,0,0,0,0,7])],[],[],[],[],[],[],none,[],0⟩ Tryz.f132=some NV:=by kernel_rfl
theorem Tq:aw X0 ⟨[],[],[],[],[],[],[],[],[],[],none,[],0⟩ Tryz.f133=some NW:=by kernel_rfl
theorem Tr:aw X0 ⟨[],[],[],[(0,[1])],[],[],[],[],[],[],none,[],0⟩ Tryz.f134=some NX:=by kernel_rfl
theorem Ts:aw X0 ⟨[],[],[],[],[],[],[],[],[],[],none,[],0⟩ Tryz.f135=some NY:=by kernel_rfl
theorem Tt:aw X0 ⟨[],[],[],[],[],[],[],[],[],[],none,[],0⟩ Tryz.f136=some NZ:=by kernel_rfl
theorem Tu:aw X0 ⟨[],[],[],[],[],[],[],[],[],[],none,[],0⟩ Tryz.f137=some N0:=by kernel_rfl
theorem Tv:aw X0 ⟨[],[],[],[],[],[],[],[],[],[],none,[],0⟩ Tryz.f138=some N1:=by kernel_rfl
theorem Tw:aw X0 ⟨[],[],[],[],[],[],[],[],[],[],none,[],0⟩ Tryz.f139=some N2:=by kernel_rfl
theorem Tx:aw X0 ⟨[],[],[],[],[],[],[],[],[],[],none,[],0⟩ Tryz.f140=some JZ:=by kernel_rfl
theorem Ty:aw X0 ⟨[],[],[],[],[],[],[],[],[],[],none,[],0⟩ Tryz.f141=some J1:=by kernel_rfl
theorem Tz:aw X0 ⟨[],[],[],[],[],[],[],[],[],[],none,[],0⟩ Tryz.f142=some J3:=by kernel_rfl
theorem TA:aw X0 ⟨[],[],[],[],[],[],[],[],[],[],none,[],0⟩ Tryz.f143=some J5:=by kernel_rfl
theorem TB:aw X0 ⟨[],[],[],[],[],[],[],[],[],[],none,[],0⟩ Tryz.f150=some N3:=by kernel_rfl
theorem TC:aw X0 ⟨[],[],[],[],[],[],[],[],[],[],none,[],0⟩ Tryz.f151=some N4:=by kernel_rfl
theorem TD:aw X0 ⟨[],[],[],[],[],[],[],[],[],[],none,[],0⟩ Tryz.f152=some N5:=by kernel_rfl
theorem TE:aw X0 ⟨[],[],[],[],[],[],[],[],[],[],none,[],0⟩ Tryz.f153=some N6:=by kernel_rfl
theorem TF:aw X0 ⟨[],[],[],[],[],[],[],[],[],[],none,[],0⟩ Tryz.f154=some N7:=by kernel_rfl
theorem TG:aw X0 ⟨[],[],[],[(0,[1])],[],[],[],[],[],[],none,[],0⟩ Tryz.f155=some N8:=by kernel_rfl
theorem TH:aw X0 ⟨[],[],[],[(2,[0,0,0,0,0,0,7]),(7,[0,0,0,0,0,0,7]),(4,[0,0,0,0,0,0,7]),(8,[0,0,0,0,0,0,7])],[],[],[],[],[],[],none,[],0⟩ Tryz.f156=some N9:=by kernel_rfl
theorem TI:aw X0 ⟨[],[],[],[],[],[],[],[],[],[],none,[],0⟩ Tryz.f157=some Oa:=by kernel_rfl
theorem TJ:aw X0 ⟨[],[],[],[],[],[],[],[],[],[],none,[],0⟩ Tryz.f158=some Ob:=by kernel_rfl
theorem TK:aw X0 ⟨[],[],[],[],[],[],[],[],[],[],none,[],0⟩ Tryz.f159=some Oc:=by kernel_rfl
theorem TL:aw X0 ⟨[],[],[],[],[],[],[],[],[],[],none,[],0⟩ Tryz.f160=some Od:=by kernel_rfl
theorem TM:aw X0 ⟨[],[],[],[],[],[],[],[],[],[],none,[],0⟩ Tryz.f161=some Ki:=by kernel_rfl
theorem TN:aw X0 ⟨[],[],[],[],[],[],[],[],[],[],none,[],0⟩ Tryz.f162=some Kk:=by kernel_rfl
theorem TO:aw X0 ⟨[],[],[],[],[],[],[],[],[],[],none,[],0⟩ Tryz.f164=some Oe:=by kernel_rfl
theorem TP:aw X0 ⟨[],[],[],[],[],[],[],[],[],[],none,[],0⟩ Tryz.f165=some Og:=by kernel_rfl
theorem TQ:aw X0 ⟨[],[],[],[],[],[],[],[],[],[],none,[],0⟩ Tryz.f166=some Oi:=by kernel_rfl
theorem TR:aw X0 ⟨[],[],[],[],[],[],[],[],[],[],none,[],0⟩ Tryz.f167=some Oj:=by kernel_rfl
theorem TS:aw X0 ⟨[],[],[],[],[],[],[],[],[],[],none,[],0⟩ Tryz.f168=some Kr:=by kernel_rfl
theorem TU:aw X0 ⟨[],[],[],[],[],[],[],[],[],[],none,[],0⟩ Tryz.f169=some Kt:=by kernel_rfl
theorem TW:aw X0 ⟨[],[],[],[],[],[],[],[],[],[],none,[],0⟩ Tryz.f170=some Kv:=by kernel_rfl
theorem TX:aw X0 ⟨[],[],[],[],[],[],[],[],[],[],none,[],0⟩ Tryz.f171=some Kx:=by kernel_rfl
theorem TY:oA X0 Tryz.f83 4 2872193639704:=⟨⟨_,_,_,_,_,_,_,_,rfl,by kernel_rfl,by kernel_rfl,⟨.agg [.int .i64 0,.int .i64 0,.int .i64 0,.nils],by kernel_rfl,by decide,by kernel_rfl⟩,⟨_,_,_,45,rfl,by kernel_rfl,rfl,rfl,rfl,by kernel_rfl⟩⟩,rfl,by decide⟩
theorem TZ:oA X0 Tryz.f121 1 8278675785407:=⟨⟨_,_,_,_,_,_,_,_,rfl,by kernel_rfl,by kernel_rfl,⟨.str [],by kernel_rfl,by decide,by kernel_rfl⟩,⟨_,_,_,9,rfl,by kernel_rfl,rfl,rfl,rfl,by kernel_rfl⟩⟩,rfl,by decide⟩
theorem tE:gK Ak=true:=by kernel_rfl
theorem Ha:gK (Al.map (·.2))=true:=by kernel_rfl
theorem Ga:ju X0 Cw:=⟨⟨3,Tryz.f3,_,_,rfl,Tryz.func3,by kernel_rfl,rfl,RA,by decide+kernel⟩,
 ⟨4,Tryz.f4,_,_,rfl,Tryz.func4,by kernel_rfl,rfl,RB,by decide+kernel⟩,
 ⟨5,Tryz.f5,_,_,rfl,Tryz.func5,by kernel_rfl,rfl,WQ,by decide+kernel⟩,
 ⟨6,Tryz.f6,_,_,rfl,Tryz.func6,by kernel_rfl,rfl,WR,by decide+kernel⟩,
 ⟨7,Tryz.f7,_,_,rfl,Tryz.func7,by kernel_rfl,rfl,RC,by decide+kernel⟩,
 ⟨8,Tryz.f8,_,_,rfl,Tryz.func8,by kernel_rfl,rfl,RD,by decide+kernel⟩,
 ⟨9,Tryz.f9,_,_,rfl,Tryz.func9,by kernel_rfl,rfl,RE,by decide+kernel⟩,
 ⟨10,Tryz.f10,_,_,rfl,Tryz.func10,by kernel_rfl,rfl,RF,by decide+kernel⟩,
 ⟨11,Tryz.f11,_,_,rfl,Tryz.func11,by kernel_rfl,rfl,RG,by decide+kernel⟩,
 ⟨12,Tryz.f12,_,_,rfl,Tryz.func12,by kernel_rfl,rfl,WS,by decide+kernel⟩,
 ⟨13,Tryz.f13,_,_,rfl,Tryz.func13,by kernel_rfl,rfl,WT,by decide+kernel⟩,
 ⟨14,Tryz.f14,_,_,rfl,Tryz.func14,by kernel_rfl,rfl,WU,by decide+kernel⟩,
 ⟨15,Tryz.f15,_,_,rfl,Tryz.func15,by kernel_rfl,rfl,WV,by decide+kernel⟩,
 ⟨16,Tryz.f16,_,_,rfl,Tryz.func16,by kernel_rfl,rfl,WW,by decide+kernel⟩,
 ⟨17,Tryz.f17,_,_,rfl,Tryz.func17,by kernel_rfl,rfl,WX,by decide+kernel⟩,
 ⟨18,Tryz.f18,_,_,rfl,Tryz.func18,by kernel_rfl,rfl,WY,by decide+kernel⟩,
 ⟨19,Tryz.f19,_,_,rfl,Tryz.func19,by kernel_rfl,rfl,WZ,by decide+kernel⟩,
 ⟨20,Tryz.f20,_,_,rfl,Tryz.func20,by kernel_rfl,rfl,W2,by decide+kernel⟩,
 ⟨21,Tryz.f21,_,_,rfl,Tryz.func21,by kernel_rfl,rfl,RH,by decide+kernel⟩,
 ⟨22,Tryz.f22,_,_,rfl,Tryz.func22,by kernel_rfl,rfl,RI,by decide+kernel⟩,
 ⟨23,Tryz.f23,_,_,rfl,Tryz.func23,by kernel_rfl,rfl,RJ,by decide+kernel⟩,
 ⟨24,Tryz.f24,_,_,rfl,Tryz.func24,by kernel_rfl,rfl,RK,by decide+kernel⟩,
 ⟨25,Tryz.f25,_,_,rfl,Tryz.func25,by kernel_rfl,rfl,RL,by decide+kernel⟩,
 ⟨26,Tryz.f26,_,_,rfl,Tryz.func26,by kernel_rfl,rfl,RM,by decide+kernel⟩,
 ⟨27,Tryz.f27,_,_,rfl,Tryz.func27,by kernel_rfl,rfl,RN,by decide+kernel⟩,
 ⟨28,Tryz.f28,_,_,rfl,Tryz.func28,by kernel_rfl,rfl,RO,by decide+kernel⟩,
 ⟨29,Tryz.f29,_,_,rfl,Tryz.func29,by kernel_rfl,rfl,RP,by decide+kernel⟩,
 ⟨30,Tryz.f30,_,_,rfl,Tryz.func30,by kernel_rfl,rfl,RQ,by decide+kernel⟩,
 ⟨31,Tryz.f31,_,_,rfl,Tryz.func31,by kernel_rfl,rfl,RR,by decide+kernel⟩,
 ⟨32,Tryz.f32,_,_,rfl,Tryz.func32,by kernel_rfl,rfl,RS,by decide+kernel⟩,
 ⟨33,Tryz.f33,_,_,rfl,Tryz.func33,by kernel_rfl,rfl,RT,by decide+kernel⟩,
 ⟨34,Tryz.f34,_,_,rfl,Tryz.func34,by kernel_rfl,rfl,RU,by decide+kernel⟩,
 ⟨35,Tryz.f35,_,_,rfl,Tryz.func35,by kernel_rfl,rfl,RV,by decide+kernel⟩,
 ⟨36,Tryz.f36,_,_,rfl,Tryz.func36,by kernel_rfl,rfl,RW,by decide+kernel⟩,
 ⟨37,Tryz.f37,_,_,rfl,Tryz.func37,by kernel_rfl,rfl,RX,by decide+kernel⟩,
 ⟨38,Tryz.f38,_,_,rfl,Tryz.func38,by kernel_rfl,rfl,RY,by decide+kernel⟩,
 ⟨39,Tryz.f39,_,_,rfl,Tryz.func39,by kernel_rfl,rfl,RZ,by decide+kernel⟩,
 ⟨40,Tryz.f40,_,_,rfl,Tryz.func40,by kernel_rfl,rfl,R0,by decide+kernel⟩,
 ⟨41,Tryz.f41,_,_,rfl,Tryz.func41,by kernel_rfl,rfl,R3,by decide+kernel⟩,
 ⟨42,Tryz.f42,_,_,rfl,Tryz.func42,by kernel_rfl,rfl,R4,by decide+kernel⟩,
 ⟨43,Tryz.f43,_,_,rfl,Tryz.func43,by kernel_rfl,rfl,R5,by decide+kernel⟩,
 ⟨44,Tryz.f44,_,_,rfl,Tryz.func44,by kernel_rfl,rfl,R6,by decide+kernel⟩,
 ⟨45,Tryz.f45,_,_,rfl,Tryz.func45,by kernel_rfl,rfl,R7,by decide+kernel⟩,
 ⟨46,Tryz.f46,_,_,rfl,Tryz.func46,by kernel_rfl,rfl,R8,by decide+kernel⟩,
 ⟨47,Tryz.f47,_,_,rfl,Tryz.func47,by kernel_rfl,rfl,R9,by decide+kernel⟩,
 ⟨48,Tryz.f48,_,_,rfl,Tryz.func48,by kernel_rfl,rfl,Sa,by decide+kernel⟩,
 ⟨49,Tryz.f49,_,_,rfl,Tryz.func49,by kernel_rfl,rfl,Sb,by decide+kernel⟩,
 ⟨50,Tryz.f50,_,_,rfl,Tryz.func50,by kernel_rfl,rfl,Sc,by decide+kernel⟩,
 ⟨51,Tryz.f51,_,_,rfl,Tryz.func51,by kernel_rfl,rfl,Sd,by decide+kernel⟩,
 ⟨52,Tryz.f52,_,_,rfl,Tryz.func52,by kernel_rfl,rfl,Se,by decide+kernel⟩,
 ⟨53,Tryz.f53,_,_,rfl,Tryz.func53,by kernel_rfl,rfl,Sg,by decide+kernel⟩,
 ⟨54,Tryz.f54,_,_,rfl,Tryz.func54,by kernel_rfl,rfl,Si,by decide+kernel⟩,
 ⟨55,Tryz.f55,_,_,rfl,Tryz.func55,by kernel_rfl,rfl,Sj,by decide+kernel⟩,
 ⟨56,Tryz.f56,_,_,rfl,Tryz.func56,by kernel_rfl,rfl,W3,by decide+kernel⟩,
 ⟨57,Tryz.f57,_,_,rfl,Tryz.func57,by kernel_rfl,rfl,Sk,by decide+kernel⟩,
 ⟨58,Tryz.f58,_,_,rfl,Tryz.func58,by kernel_rfl,rfl,Sl,by decide+kernel⟩,
 ⟨59,Tryz.f59,_,_,rfl,Tryz.func59,by kernel_rfl,rfl,Sm,by decide+kernel⟩,
 ⟨60,Tryz.f60,_,_,rfl,Tryz.func60,by kernel_rfl,rfl,Sn,by decide+kernel⟩,
 ⟨61,Tryz.f61,_,_,rfl,Tryz.func61,by kernel_rfl,rfl,Sp,by decide+kernel⟩,
 ⟨62,Tryz.f62,_,_,rfl,Tryz.func62,by kernel_rfl,rfl,Sq,by decide+kernel⟩,
 ⟨63,Tryz.f63,_,_,rfl,Tryz.func63,by kernel_rfl,rfl,Sr,by decide+kernel⟩,
 ⟨64,Tryz.f64,_,_,rfl,Tryz.func64,by kernel_rfl,rfl,Ss,by decide+kernel⟩,
 ⟨65,Tryz.f65,_,_,rfl,Tryz.func65,by kernel_rfl,rfl,Su,by decide+kernel⟩,
 ⟨66,Tryz.f66,_,_,rfl,Tryz.func66,by kernel_rfl,rfl,Sv,by decide+kernel⟩,
 ⟨67,Tryz.f67,_,_,rfl,Tryz.func67,by kernel_rfl,rfl,Sw,by decide+kernel⟩,
 ⟨68,Tryz.f68,_,_,rfl,Tryz.func68,by kernel_rfl,rfl,Sx,by decide+kernel⟩,
 ⟨69,Tryz.f69,_,_,rfl,Tryz.func69,by kernel_rfl,rfl,Sy,by decide+kernel⟩,
 ⟨70,Tryz.f70,_,_,rfl,Tryz.func70,by kernel_rfl,rfl,Sz,by decide+kernel⟩,
 ⟨71,Tryz.f71,_,_,rfl,Tryz.func71,by kernel_rfl,rfl,SA,by decide+kernel⟩,
 ⟨72,Tryz.f72,_,_,rfl,Tryz.func72,by kernel_rfl,rfl,SB,by decide+kernel⟩,
 ⟨73,Tryz.f73,_,_,rfl,Tryz.func73,by kernel_rfl,rfl,SC,by decide+kernel⟩,
 ⟨74,Tryz.f74,_,_,rfl,Tryz.func74,by kernel_rfl,rfl,SD,by decide+kernel⟩,
 ⟨75,Tryz.f75,_,_,rfl,Tryz.func75,by kernel_rfl,rfl,SE,by decide+kernel⟩,
 ⟨76,Tryz.f76,_,_,rfl,Tryz.func76,by kernel_rfl,rfl,SF,by decide+kernel⟩,
 ⟨77,Tryz.f77,_,_,rfl,Tryz.func77,by kernel_rfl,rfl,W4,by decide+kernel⟩,
 ⟨80,Tryz.f80,_,_,rfl,Tryz.func80,by kernel_rfl,rfl,SG,by decide+kernel⟩,
 ⟨81,Tryz.f81,_,_,rfl,Tryz.func81,by kernel_rfl,rfl,SH,by decide+kernel⟩,
 ⟨82,Tryz.f82,_,_,rfl,Tryz.func82,by kernel_rfl,rfl,SI,by decide+kernel⟩,
 ⟨84,Tryz.f84,_,_,rfl,Tryz.func84,by kernel_rfl,rfl,SJ,by decide+kernel⟩,
 ⟨85,Tryz.f85,_,_,rfl,Tryz.func85,by kernel_rfl,rfl,SK,by decide+kernel⟩,
 ⟨86,Tryz.f86,_,_,rfl,Tryz.func86,by kernel_rfl,rfl,SL,by decide+kernel⟩,
 ⟨87,Tryz.f87,_,_,rfl,Tryz.func87,by kernel_rfl,rfl,SM,by decide+kernel⟩,
 ⟨88,Tryz.f88,_,_,rfl,Tryz.func88,by kernel_rfl,rfl,SN,by decide+kernel⟩,
 ⟨89,Tryz.f89,_,_,rfl,Tryz.func89,by kernel_rfl,rfl,SO,by decide+kernel⟩,
 ⟨90,Tryz.f90,_,_,rfl,Tryz.func90,by kernel_rfl,rfl,SP,by decide+kernel⟩,
 ⟨91,Tryz.f91,_,_,rfl,Tryz.func91,by kernel_rfl,rfl,SQ,by decide+kernel⟩,
 ⟨92,Tryz.f92,_,_,rfl,Tryz.func92,by kernel_rfl,rfl,SR,by decide+kernel⟩,
 ⟨93,Tryz.f93,_,_,rfl,Tryz.func93,by kernel_rfl,rfl,SU,by decide+kernel⟩,
 ⟨94,Tryz.f94,_,_,rfl,Tryz.func94,by kernel_rfl,rfl,SV,by decide+kernel⟩,
 ⟨95,Tryz.f95,_,_,rfl,Tryz.func95,by kernel_rfl,rfl,SW,by decide+kernel⟩,
 ⟨96,Tryz.f96,_,_,rfl,Tryz.func96,by kernel_rfl,rfl,SX,by decide+kernel⟩,
 ⟨97,Tryz.f97,_,_,rfl,Tryz.func97,by kernel_rfl,rfl,SY,by decide+kernel⟩,
 ⟨98,Tryz.f98,_,_,rfl,Tryz.func98,by kernel_rfl,rfl,SZ,by decide+kernel⟩,
 ⟨99,Tryz.f99,_,_,rfl,Tryz.func99,by kernel_rfl,rfl,S4,by decide+kernel⟩,
 ⟨100,Tryz.f100,_,_,rfl,Tryz.func100,by kernel_rfl,rfl,S5,by decide+kernel⟩,
 ⟨101,Tryz.f101,_,_,rfl,Tryz.func101,by kernel_rfl,rfl,S6,by decide+kernel⟩,
 ⟨102,Tryz.f102,_,_,rfl,Tryz.func102,by kernel_rfl,rfl,S7,by decide+kernel⟩,
 ⟨103,Tryz.f103,_,_,rfl,Tryz.func103,by kernel_rfl,rfl,S8,by decide+kernel⟩,
 ⟨116,Tryz.f116,_,_,rfl,Tryz.func116,by kernel_rfl,rfl,S9,by decide+kernel⟩,
 ⟨117,Tryz.f117,_,_,rfl,Tryz.func117,by kernel_rfl,rfl,Ta,by decide+kernel⟩,
 ⟨118,Tryz.f118,_,_,rfl,Tryz.func118,by kernel_rfl,rfl,Tb,by decide+kernel⟩,
 ⟨119,Tryz.f119,_,_,rfl,Tryz.func119,by kernel_rfl,rfl,Tc,by decide+kernel⟩,
 ⟨120,Tryz.f120,_,_,rfl,Tryz.func120,by kernel_rfl,rfl,Td,by decide+kernel⟩,
 ⟨122,Tryz.f122,_,_,rfl,Tryz.func122,by kernel_rfl,rfl,Te,by decide+kernel⟩,
 ⟨123,Tryz.f123,_,_,rfl,Tryz.func123,by kernel_rfl,rfl,Tf,by decide+kernel⟩,
 ⟨124,Tryz.f124,_,_,rfl,Tryz.func124,by kernel_rfl,rfl,Th,by decide+kernel⟩,
 ⟨125,Tryz.f125,_,_,rfl,Tryz.func125,by kernel_rfl,rfl,Ti,by decide+kernel⟩,
 ⟨126,Tryz.f126,_,_,rfl,Tryz.func126,by kernel_rfl,rfl,Tj,by decide+kernel⟩,
 ⟨127,Tryz.f127,_,_,rfl,Tryz.func127,by kernel_rfl,rfl,Tk,by decide+kernel⟩,
 ⟨128,Tryz.f128,_,_,rfl,Tryz.func128,by kernel_rfl,rfl,Tl,by decide+kernel⟩,
 ⟨129,Tryz.f129,_,_,rfl,Tryz.func129,by kernel_rfl,rfl,Tm,by decide+kernel⟩,
 ⟨130,Tryz.f130,_,_,rfl,Tryz.func130,by kernel_rfl,rfl,Tn,by decide+kernel⟩,
 ⟨131,Tryz.f131,_,_,rfl,Tryz.func131,by kernel_rfl,rfl,To,by decide+kernel⟩,
 ⟨132,Tryz.f132,_,_,rfl,Tryz.func132,by kernel_rfl,rfl,Tp,by decide+kernel⟩,
 ⟨133,Tryz.f133,_,_,rfl,Tryz.func133,by kernel_rfl,rfl,Tq,by decide+kernel⟩,
 ⟨134,Tryz.f134,_,_,rfl,Tryz.func134,by kernel_rfl,rfl,Tr,by decide+kernel⟩,
 ⟨135,Tryz.f135,_,_,rfl,Tryz.func135,by kernel_rfl,rfl,Ts,by decide+kernel⟩,
 ⟨136,Tryz.f136,_,_,rfl,Tryz.func136,by kernel_rfl,rfl,Tt,by decide+kernel⟩,
 ⟨137,Tryz.f137,_,_,rfl,Tryz.func137,by kernel_rfl,rfl,Tu,by decide+kernel⟩,
 ⟨138,Tryz.f138,_,_,rfl,Tryz.func138,by kernel_rfl,rfl,Tv,by decide+kernel⟩,
 ⟨139,Tryz.f139,_,_,rfl,Tryz.func139,by kernel_rfl,rfl,Tw,by decide+kernel⟩,
 ⟨140,Tryz.f140,_,_,rfl,Tryz.func140,by kernel_rfl,rfl,Tx,by decide+kernel⟩,
 ⟨141,Tryz.f141,_,_,rfl,Tryz.func141,by kernel_rfl,rfl,Ty,by decide+kernel⟩,
 ⟨142,Tryz.f142,_,_,rfl,Tryz.func142,by kernel_rfl,rfl,Tz,by decide+kernel⟩,
 ⟨143,Tryz.f143,_,_,rfl,Tryz.func143,by kernel_rfl,rfl,TA,by decide+kernel⟩,
 ⟨150,Tryz.f150,_,_,rfl,Tryz.func150,by kernel_rfl,rfl,TB,by decide+kernel⟩,
 ⟨151,Tryz.f151,_,_,rfl,Tryz.func151,by kernel_rfl,rfl,TC,by decide+kernel⟩,
 ⟨152,Tryz.f152,_,_,rfl,Tryz.func152,by kernel_rfl,rfl,TD,by decide+kernel⟩,
 ⟨153,Tryz.f153,_,_,rfl,Tryz.func153,by kernel_rfl,rfl,TE,by decide+kernel⟩,
 ⟨154,Tryz.f154,_,_,rfl,Tryz.func154,by kernel_rfl,rfl,TF,by decide+kernel⟩,
 ⟨155,Tryz.f155,_,_,rfl,Tryz.func155,by kernel_rfl,rfl,TG,by decide+kernel⟩,
 ⟨156,Tryz.f156,_,_,rfl,Tryz.func156,by kernel_rfl,rfl,TH,by decide+kernel⟩,
 ⟨157,Tryz.f157,_,_,rfl,Tryz.func157,by kernel_rfl,rfl,TI,by decide+kernel⟩,
 ⟨158,Tryz.f158,_,_,rfl,Tryz.func158,by kernel_rfl,rfl,TJ,by decide+kernel⟩,
 ⟨159,Tryz.f159,_,_,rfl,Tryz.func159,by kernel_rfl,rfl,TK,by decide+kernel⟩,
 ⟨160,Tryz.f160,_,_,rfl,Tryz.func160,by kernel_rfl,rfl,TL,by decide+kernel⟩,
 ⟨161,Tryz.f161,_,_,rfl,Tryz.func161,by kernel_rfl,rfl,TM,by decide+kernel⟩,
 ⟨162,Tryz.f162,_,_,rfl,Tryz.func162,by kernel_rfl,rfl,TN,by decide+kernel⟩,
 ⟨164,Tryz.f164,_,_,rfl,Tryz.func164,by kernel_rfl,rfl,TO,by decide+kernel⟩,
 ⟨165,Tryz.f165,_,_,rfl,Tryz.func165,by kernel_rfl,rfl,TP,by decide+kernel⟩,
 ⟨166,Tryz.f166,_,_,rfl,Tryz.func166,by kernel_rfl,rfl,TQ,by decide+kernel⟩,
 ⟨167,Tryz.f167,_,_,rfl,Tryz.func167,by kernel_rfl,rfl,TR,by decide+kernel⟩,
 ⟨168,Tryz.f168,_,_,rfl,Tryz.func168,by kernel_rfl,rfl,TS,by decide+kernel⟩,
 ⟨169,Tryz.f169,_,_,rfl,Tryz.func169,by kernel_rfl,rfl,TU,by decide+kernel⟩,
 ⟨170,Tryz.f170,_,_,rfl,Tryz.func170,by kernel_rfl,rfl,TW,by decide+kernel⟩,
 ⟨171,Tryz.f171,_,_,rfl,Tryz.func171,by kernel_rfl,rfl,TX,by decide+kernel⟩,trivial⟩
theorem Hb: ∀t1 t2 k,X0.iv t1=some k→X0.iv t2=some k→t1=t2:=(xG (P:=Tryz.prog) (fl:=Ak) (tl:=Al) (tab:=[]) (ext:=[]) (hyb:=[]) (iter:=[]) tE Ha (by kernel_rfl) trivial trivial trivial trivial).inj
theorem DM:oB X0 Cx:=⟨⟨83,rfl,fun _ _ h=>rA Hb Tryz.func83 (by kernel_rfl) TY h⟩,
 ⟨121,rfl,fun _ _ h=>rA Hb Tryz.func121 (by kernel_rfl) TZ h⟩,
 ⟨104,rfl,fun _ _ h=>zh Tryz.func104 (by kernel_rfl) (by kernel_rfl) (by kernel_rfl) rfl h⟩,
 ⟨59,rfl,fun _ _ h=>xL (X:=X0) (F:=59) (ρ:=vb) Rz rfl Tryz.func59 (by kernel_rfl) rfl h⟩,trivial⟩
theorem BL:kY X0 zI:=trivial
theorem Rq:tB X0 E:=xG (P:=Tryz.prog) (fl:=Ak) (tl:=Al) tE Ha (by kernel_rfl) Ga DM trivial BL
end Go.AM
