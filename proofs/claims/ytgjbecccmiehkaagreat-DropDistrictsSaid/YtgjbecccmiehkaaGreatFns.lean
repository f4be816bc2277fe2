/- Texts of the proof. -/
import Derived.Test.YtgjbecccmiehkaaGreatSd
import Derived.Test.YtgjbecccmiehkaaGreatFpa
import Derived.Test.YtgjbecccmiehkaaGreatFpb
import Derived.Test.YtgjbecccmiehkaaGreatFpc
import Derived.Test.YtgjbecccmiehkaaGreatFpd
import Derived.Test.YtgjbecccmiehkaaGreatFpe
set_option linter.unusedSimpArgs false
set_option linter.unusedVariables false
set_option maxRecDepth 100000
namespace Go.AM
open Go.Proofs
def N7:bF:=IX.1
def f96:bF:=UJ.1
def f10:bF:=UK.1
def f165:bF:=N8.1
def f133:bF:=N9.1
def f144:bF:=Oa.1
def f37:bF:=UL.1
def f27:bF:=UM.1
def f83:bF:=Nn.1
def f40:bF:=UN.1
def f22:bF:=UO.1
def f23:bF:=UP.1
def RB:bF:=IY.1
def f41:bF:=UQ.1
def f113:bF:=Ob.1
def f114:bF:=Od.1
def f115:bF:=Oe.1
def f116:bF:=Og.1
def f117:bF:=Oi.1
def f118:bF:=Oj.1
def f93:bF:=UR.1
def f119:bF:=Ol.1
def f120:bF:=Oo.1
def f121:bF:=Oq.1
def f122:bF:=Ot.1
def f50:bF:=US.1
def f51:bF:=UT.1
def f36:bF:=QK.1
def f33:bF:=UU.1
def f162:bF:=Ou.1
def f163:bF:=Ov.1
def f164:bF:=Ow.1
abbrev IZ:=By IX.1 1
def Lk:aM:=IX.1.body
abbrev I0:=By Ox.1 0
abbrev Bz:=By Nn.1 1
abbrev Ll:=By Nn.1 3
abbrev Lm:=By Nn.1 5
def Ko:aM:=Nn.1.body
abbrev I1:=By IY.1 0
abbrev I2:=By IY.1 1
def F5:List (Nat×bF):=[(781,IX.1),(521,RC.1),(522,RD.1),(96,UJ.1),(529,Ox.1),(524,RE.1),(10,UK.1),(532,RF.1),(526,RG.1),(165,N8.1),(533,RH.1),(527,RI.1),(77,Wg.1),(132,RJ.1),(133,N9.1),(543,RK.1),(540,RL.1),(544,RM.1),(545,RN.1),(534,RO.1),(535,RP.1),(144,Oa.1),(541,RQ.1),(219,RR.1),(37,UL.1),(27,UM.1),(83,Nn.1),(84,Wh.1),(85,Wi.1),(86,Wj.1),(87,Wk.1),(40,UN.1),(216,RS.1),(557,RT.1),(550,RU.1),(179,RV.1),(551,RW.1),(22,UO.1),(23,UP.1),(547,RX.1),(181,RY.1),(182,RZ.1),(183,R0.1),(184,R1.1),(552,R2.1),(553,IY.1),(554,R3.1),(555,R4.1),(556,R5.1),(41,UQ.1),(113,Ob.1),(114,Od.1),(115,Oe.1),(116,Og.1),(117,Oi.1),(118,Oj.1),(93,UR.1),(119,Ol.1),(120,Oo.1),(121,Oq.1),(122,Ot.1),(50,US.1),(51,UT.1),(36,QK.1),(187,R6.1),(220,R7.1),(189,R8.1),(222,R9.1),(565,Sa.1),(566,Sb.1),(186,Sc.1),(33,UU.1),(131,Sd.1),(161,Se.1),(162,Ou.1),(163,Ov.1),(164,Ow.1),(224,Sg.1),(227,Si.1),(251,Sj.1),(252,Sk.1),(253,Sl.1),(254,Sm.1),(255,Sn.1),(175,Sp.1),(223,Sq.1),(429,Sr.1),(430,Ss.1),(198,Su.1),(199,Sv.1),(200,Sw.1),(201,Sx.1),(202,Sy.1),(259,Sz.1),(260,SA.1),(276,SB.1),(277,SC.1),(235,SD.1),(236,SE.1),(237,SF.1),(238,SG.1),(280,SH.1),(287,SI.1),(288,SJ.1),(289,SK.1),(270,SL.1),(271,SM.1),(298,SN.1),(299,SO.1),(300,SP.1),(282,SQ.1),(283,SR.1),(284,SU.1),(285,SV.1),(304,SX.1)]
def F6:List (Nat× (List V→Option eV)):=[(28,c8 4 2872193639704),(29,c8 5 2469078742875),(30,c8 8 1450901941607),(31,c8 7 1927910799188),(32,c8 2 8278675785407),(52,vT),(132,yY),(544,lD 5 545 (Ft 2 4)),(253,lD 2 254 (Ft 0 1))]
def Da:List (Nat× (List V→Option (List (List V)))):=[(221,C3),(564,FU)]
def E:Env:=UI F5 F6 [] Da
theorem Oy (gj:List V):E.ext 132 gj=yY gj:=rfl
theorem Oz:E.fn 113=some f113:=rfl
theorem OA (gj:List V):E.ext 113 gj=none:=rfl
theorem Kq:E.fn 114=some f114:=rfl
theorem Kr (gj:List V):E.ext 114 gj=none:=rfl
theorem OB:E.fn 121=some f121:=rfl
theorem OC (gj:List V):E.ext 121 gj=none:=rfl
theorem OD:E.fn 162=some f162:=rfl
theorem OE (gj:List V):E.ext 162 gj=none:=rfl
theorem OF:E.fn 163=some f163:=rfl
theorem OG (gj:List V):E.ext 163 gj=none:=rfl
theorem OH (gj:List V):E.ext 28 gj=c8 4 2872193639704 gj:=rfl
theorem OI (gj:List V):E.ext 29 gj=c8 5 2469078742875 gj:=rfl
theorem OJ (gj:List V):E.ext 30 gj=c8 8 1450901941607 gj:=rfl
theorem OK (gj:List V):E.ext 31 gj=c8 7 1927910799188 gj:=rfl
theorem OL (gj:List V):E.ext 32 gj=c8 2 8278675785407 gj:=rfl
theorem OM (gj:List V):E.ext 52 gj=vT gj:=rfl
end Go.AM
