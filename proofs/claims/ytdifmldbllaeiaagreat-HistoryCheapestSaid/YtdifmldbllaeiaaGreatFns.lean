/- Texts of the proof. -/
import Derived.Test.YtdifmldbllaeiaaGreatSd
import Derived.Test.YtdifmldbllaeiaaGreatFpa
import Derived.Test.YtdifmldbllaeiaaGreatFpb
import Derived.Test.YtdifmldbllaeiaaGreatFpc
import Derived.Test.YtdifmldbllaeiaaGreatFpd
import Derived.Test.YtdifmldbllaeiaaGreatFpe
set_option linter.unusedSimpArgs false
set_option linter.unusedVariables false
set_option maxRecDepth 100000
namespace Go.AM
open Go.Proofs
def js:aS→List (aS×aS×aS)
 | .seq a b=>js a++js b
 | .block _ a=>js a
 | .scope a=>js a
 | .cond _ a b=>js a++js b
 | .loop a=>js a++[(.skip,a,.skip)]
 | .nN _ _ a b=>js a++js b++[(a,b,.skip)]
 | .keys _ _ _ _ _ _ a b c=>js a++js b++js c++[(a,b,c)]
 | _=> []
abbrev Xk (f:aM) (i:Nat):aS×aS×aS:=(js f.body).getD i (.skip,.skip,.skip)
def f96:aM:=c96.1
def f77:aM:=c77.1
def f132:aM:=X7.1
def f133:aM:=X8.1
def f151:aM:=X9.1
def f153:aM:=Ya.1
def f155:aM:=Yb.1
def f157:aM:=Yc.1
def f83:aM:=Xl.1
def f84:aM:=c84.1
def f87:aM:=c87.1
def f23:aM:=c23.1
def f191:aM:=Yd.1
def f192:aM:=Ye.1
def f193:aM:=Yf.1
def f194:aM:=Yg.1
def f162:aM:=Yh.1
def f113:aM:=Yi.1
def f114:aM:=Yj.1
def f115:aM:=Yk.1
def f93:aM:=c93.1
def f121:aM:=Yl.1
def f51:aM:=c51.1
def abG:aM:=Ym.1
def f36:aM:=c36.1
def abH:aM:=Nk.1
def f8:aM:=c8.1
def f12:aM:=c12.1
def f7:aM:=c7.1
def f9:aM:=c9.1
def abI:aM:=Yn.1
def f22:aM:=c22.1
def f131:aM:=Yo.1
def f163:aM:=Yp.1
def f144:aM:=Yq.1
def f219:aM:=Yr.1
def f37:aM:=c37.1
def f27:aM:=c27.1
def abJ:aM:=Ys.1
def f15:aM:=c15.1
def f24:aM:=c24.1
def f19:aM:=c19.1
def f20:aM:=c20.1
def f21:aM:=c21.1
def f25:aM:=c25.1
def f26:aM:=c26.1
def f42:aM:=c42.1
def abK:aM:=Yt.1
def f179:aM:=Yu.1
def f197:aM:=Yv.1
def f180:aM:=Yw.1
def f33:aM:=c33.1
def f216:aM:=Yx.1
def f198:aM:=Yy.1
def f199:aM:=Yz.1
def f200:aM:=YA.1
def f201:aM:=YB.1
def f202:aM:=YC.1
def f181:aM:=YD.1
def f182:aM:=YE.1
def f183:aM:=YF.1
def f184:aM:=YG.1
def abL:aM:=RE.1
def f280:aM:=YH.1
def f34:aM:=c34.1
def f35:aM:=c35.1
def abM:aM:=YI.1
def f235:aM:=YJ.1
def f236:aM:=YK.1
def f237:aM:=YL.1
def f238:aM:=YM.1
def f187:aM:=YN.1
def f220:aM:=YO.1
def f189:aM:=YP.1
def f186:aM:=YQ.1
def abN:aM:=YR.1
def f270:aM:=YS.1
def f251:aM:=YT.1
def f252:aM:=YU.1
def f253:aM:=YV.1
def f254:aM:=YW.1
def f255:aM:=YX.1
def f175:aM:=YY.1
def f282:aM:=YZ.1
def f283:aM:=Y0.1
def f284:aM:=Y1.1
def f285:aM:=Y2.1
def f260:aM:=Y3.1
def f277:aM:=Y4.1
def f287:aM:=Y5.1
def f288:aM:=Y6.1
def f289:aM:=Y7.1
def f299:aM:=Y8.1
def f300:aM:=Y9.1
abbrev xB:=(Xk RF.1 0).1
abbrev xC:=(Xk RF.1 0).2.1
def He:aS:=RF.1.body
abbrev Hf:=yB Xl.1 1
abbrev U3:=yB Xl.1 3
abbrev U4:=yB Xl.1 5
def TS:aS:=Xl.1.body
abbrev RG:=yB Za.1 0
abbrev RH:=yB Nk.1 0
abbrev tC:=yB Nk.1 1
abbrev Cz:=yB Nk.1 2
abbrev RI:=(Xk Nl.1 0).1
abbrev RJ:=(Xk Nl.1 0).2.1
abbrev RK:=(Xk Nl.1 0).2.2
abbrev xD:=(Xk Nl.1 1).2.1
abbrev Jj:=yB Zb.1 0
abbrev RL:=yB RE.1 0
abbrev RM:=yB RE.1 1
abbrev Jk:=yB Zc.1 0
def Nn:List (Nat×aM):=[(726,abO.1),(728,abP.1),(729,abQ.1),(730,abR.1),(607,abS.1),(704,abT.1),(96,c96.1),(644,abU.1),(645,abV.1),(735,abW.1),(622,RF.1),(736,abX.1),(737,abY.1),(610,abZ.1),(738,ab0.1),(77,c77.1),(739,ab1.1),(740,ab2.1),(706,ab3.1),(707,ab4.1),(695,ab5.1),(132,X7.1),(708,ab6.1),(709,ab7.1),(133,X8.1),(657,ab8.1),(658,ab9.1),(659,aca.1),(151,X9.1),(153,Ya.1),(155,Yb.1),(157,Yc.1),(637,acb.1),(753,acd.1),(754,ace.1),(497,acf.1),(625,acg.1),(626,ach.1),(627,aci.1),(755,acj.1),(83,Xl.1),(84,c84.1),(85,c85.1),(86,c86.1),(87,c87.1),(756,ack.1),(710,acm.1),(40,c40.1),(711,acn.1),(23,c23.1),(665,aco.1),(666,acp.1),(667,acq.1),(668,acr.1),(191,Yd.1),(192,Ye.1),(193,Yf.1),(194,Yg.1),(162,Yh.1),(643,acs.1),(511,acu.1),(638,acv.1),(113,Yi.1),(114,Yj.1),(115,Yk.1),(116,acw.1),(117,acx.1),(118,acy.1),(93,c93.1),(119,acz.1),(120,acA.1),(121,Yl.1),(122,acB.1),(765,acC.1),(50,c50.1),(51,c51.1),(712,Ym.1),(713,acD.1),(714,acE.1),(715,acF.1),(716,acG.1),(717,acH.1),(718,acI.1),(719,acJ.1),(36,c36.1),(672,acK.1),(526,acL.1),(527,acM.1),(524,acN.1),(529,Za.1),(673,acO.1),(487,acP.1),(489,acQ.1),(485,Nk.1),(492,Nl.1),(674,acR.1),(675,acS.1),(676,acT.1),(677,acU.1),(678,acV.1),(679,acW.1),(680,acX.1),(681,acY.1),(8,c8.1),(12,c12.1),(7,c7.1),(9,c9.1),(682,Yn.1),(22,c22.1),(160,acZ.1),(307,ac0.1),(308,ac1.1),(306,ac2.1),(131,Yo.1),(161,ac3.1),(163,Yp.1),(164,ac4.1),(54,c54.1),(55,c55.1),(720,ac5.1),(721,ac6.1),(722,ac7.1),(534,ac8.1),(540,ac9.1),(144,Yq.1),(535,ada.1),(541,adb.1),(219,Yr.1),(37,c37.1),(27,c27.1),(543,ade.1),(544,adf.1),(545,adg.1),(501,adh.1),(500,adi.1),(502,adj.1),(17,c17.1),(505,Ys.1),(506,adk.1),(507,Zb.1),(496,adl.1),(508,adm.1),(683,adn.1),(684,ado.1),(685,adp.1),(686,adq.1),(687,adr.1),(688,ads.1),(689,adt.1),(690,adu.1),(691,adv.1),(15,c15.1),(24,c24.1),(16,c16.1),(18,c18.1),(19,c19.1),(20,c20.1),(21,c21.1),(25,c25.1),(26,c26.1),(42,c42.1),(692,Yt.1),(179,Yu.1),(197,Yv.1),(180,Yw.1),(514,adw.1),(33,c33.1),(515,adx.1),(216,Yx.1),(516,ady.1),(198,Yy.1),(199,Yz.1),(200,YA.1),(201,YB.1),(202,YC.1),(723,adz.1),(550,adA.1),(551,adB.1),(181,YD.1),(182,YE.1),(183,YF.1),(184,YG.1),(547,adC.1),(552,adD.1),(553,RE.1),(554,adE.1),(555,adF.1),(556,adG.1),(41,c41.1),(557,adH.1),(495,Zc.1),(280,YH.1),(38,c38.1),(693,adI.1),(694,adJ.1),(696,adK.1),(697,adL.1),(698,adM.1),(699,adN.1),(34,c34.1),(35,c35.1),(700,YI.1),(235,YJ.1),(236,YK.1),(237,YL.1),(238,YM.1),(187,YN.1),(220,YO.1),(189,YP.1),(222,adO.1),(565,adP.1),(566,adQ.1),(186,YQ.1),(510,adR.1),(701,adS.1),(702,adT.1),(703,adU.1),(705,YR.1),(270,YS.1),(271,adV.1),(224,adW.1),(227,adX.1),(251,YT.1),(252,YU.1),(253,YV.1),(254,YW.1),(255,YX.1),(175,YY.1),(223,adY.1),(429,adZ.1),(430,ad0.1),(282,YZ.1),(283,Y0.1),(284,Y1.1),(285,Y2.1),(259,ad1.1),(260,Y3.1),(276,ad2.1),(277,Y4.1),(287,Y5.1),(288,Y6.1),(289,Y7.1),(298,ad3.1),(299,Y8.1),(300,Y9.1),(304,ad4.1)]
def No:List (Nat× (List V→Option eL)):=[(32,dy 2 8278675785407),(28,dy 4 2872193639704),(29,dy 5 2469078742875),(30,dy 8 1450901941607),(31,dy 7 1927910799188),(149,dy 1 15637498705947),(52,AW),(132,Ea),(544,lu 5 545 (U5 2 4)),(25,lu 5 26 (by1 2)),(253,lu 2 254 (U5 0 1))]
def Jl:List (Nat× (List V→Option (List (List V)))):=[(221,Jd),(564,M8),(765,G5)]
def E:Env:=mkEM Nn No [(622,Je)] Jl [(706,AZ),(707,AY)]
theorem Zd (eV:List V):E.ext 132 eV=Ea eV:=rfl
theorem Ze:E.fn 162=some f162:=rfl
theorem Zf (eV:List V):E.ext 162 eV=none:=rfl
theorem Zg:E.fn 113=some f113:=rfl
theorem Zh (eV:List V):E.ext 113 eV=none:=rfl
theorem Zi:E.fn 114=some f114:=rfl
theorem Zj (eV:List V):E.ext 114 eV=none:=rfl
theorem Zk:E.fn 121=some f121:=rfl
theorem Zl (eV:List V):E.ext 121 eV=none:=rfl
theorem Zm:E.fn 712=some abG:=rfl
theorem Zn (eV:List V):E.ext 712 eV=none:=rfl
theorem Zo:E.fn 485=some abH:=rfl
theorem Zp (eV:List V):E.ext 485 eV=none:=rfl
theorem Zq:E.fn 682=some abI:=rfl
theorem Zr (eV:List V):E.ext 682 eV=none:=rfl
theorem Zs:E.fn 131=some f131:=rfl
theorem Zt (eV:List V):E.ext 131 eV=none:=rfl
theorem Zu:E.fn 163=some f163:=rfl
theorem Zv (eV:List V):E.ext 163 eV=none:=rfl
theorem Zw:E.fn 505=some abJ:=rfl
theorem Zx (eV:List V):E.ext 505 eV=none:=rfl
theorem ad5:E.fn 42=some f42:=rfl
theorem ad6 (eV:List V):E.ext 42 eV=none:=rfl
theorem Np:E.fn 692=some abK:=rfl
theorem Nq (eV:List V):E.ext 692 eV=none:=rfl
theorem Zy:E.fn 700=some abM:=rfl
theorem Zz (eV:List V):E.ext 700 eV=none:=rfl
theorem ZA:E.fn 705=some abN:=rfl
theorem ZB (eV:List V):E.ext 705 eV=none:=rfl
theorem ZC (eV:List V):E.ext 32 eV=dy 2 8278675785407 eV:=rfl
theorem ZD (eV:List V):E.ext 28 eV=dy 4 2872193639704 eV:=rfl
theorem ZE (eV:List V):E.ext 29 eV=dy 5 2469078742875 eV:=rfl
theorem ZF (eV:List V):E.ext 30 eV=dy 8 1450901941607 eV:=rfl
theorem ZG (eV:List V):E.ext 31 eV=dy 7 1927910799188 eV:=rfl
theorem ZH (eV:List V):E.ext 149 eV=dy 1 15637498705947 eV:=rfl
theorem ZI (eV:List V):E.ext 52 eV=AW eV:=rfl
end Go.AM
