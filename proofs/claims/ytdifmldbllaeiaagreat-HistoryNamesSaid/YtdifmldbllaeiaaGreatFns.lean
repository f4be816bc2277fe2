/- Texts of the proof. -/
import Derived.Test.YtdifmldbllaeiaaGreatSd
import Derived.Test.YtdifmldbllaeiaaGreatFpa
import Derived.Test.YtdifmldbllaeiaaGreatFpb
import Derived.Test.YtdifmldbllaeiaaGreatFpc
import Derived.Test.YtdifmldbllaeiaaGreatFpd
import Derived.Test.YtdifmldbllaeiaaGreatFpe
set_option linter.unusedSimpArgs false
set_option linter.unusedVariables false
set_option maxRecDepth 100000
namespace Go.AM
open Go.Proofs
def ku:a8->List (a8×a8×a8)
 | .seq a b=>ku a++ku b
 | .block _ a=>ku a
 | .scope a=>ku a
 | .cond _ a b=>ku a++ku b
 | .loop a=>ku a++[(.skip,a,.skip)]
 | .pY _ _ a b=>ku a++ku b++[(a,b,.skip)]
 | .keys _ _ _ _ _ _ a b c=>ku a++ku b++ku c++[(a,b,c)]
 | _=> []
abbrev lp3 (f:aT) (i:Nat):a8×a8×a8:=(ku f.body).getD i (.skip,.skip,.skip)
def f96:aT:=c96.1
def f77:aT:=c77.1
def f132:aT:=aa9.1
def f133:aT:=aba.1
def f151:aT:=abb.1
def f153:aT:=abc.1
def f155:aT:=abd.1
def f157:aT:=abe.1
def f83:aT:=c83.1
def f84:aT:=c84.1
def f87:aT:=c87.1
def f23:aT:=c23.1
def f191:aT:=abf.1
def f192:aT:=abg.1
def f193:aT:=abh.1
def f194:aT:=abi.1
def f113:aT:=abj.1
def f114:aT:=abk.1
def f115:aT:=abl.1
def f93:aT:=c93.1
def f121:aT:=abn.1
def f51:aT:=c51.1
def ae7:aT:=abp.1
def f36:aT:=c36.1
def ae8:aT:=QM.1
def f8:aT:=c8.1
def f12:aT:=c12.1
def f7:aT:=c7.1
def f9:aT:=c9.1
def ae9:aT:=abq.1
def f22:aT:=c22.1
def f131:aT:=abr.1
def f163:aT:=abt.1
def f144:aT:=abu.1
def f219:aT:=abv.1
def f37:aT:=c37.1
def f27:aT:=c27.1
def afa:aT:=abw.1
def f15:aT:=c15.1
def f24:aT:=c24.1
def f19:aT:=c19.1
def f20:aT:=c20.1
def f21:aT:=c21.1
def f25:aT:=c25.1
def f26:aT:=c26.1
def f42:aT:=c42.1
def afb:aT:=abx.1
def f179:aT:=aby.1
def f197:aT:=abz.1
def f180:aT:=abA.1
def f33:aT:=c33.1
def f216:aT:=abB.1
def f198:aT:=abC.1
def f199:aT:=abD.1
def f200:aT:=abE.1
def f201:aT:=abF.1
def f202:aT:=abG.1
def f181:aT:=abH.1
def f182:aT:=abI.1
def f183:aT:=abJ.1
def f184:aT:=abK.1
def afc:aT:=Vw.1
def f280:aT:=abL.1
def f34:aT:=c34.1
def f35:aT:=c35.1
def afd:aT:=abM.1
def f235:aT:=abN.1
def f236:aT:=abO.1
def f237:aT:=abP.1
def f238:aT:=abQ.1
def f187:aT:=abR.1
def f220:aT:=abS.1
def f189:aT:=abT.1
def f186:aT:=abU.1
def afe:aT:=abV.1
def f270:aT:=abW.1
def f251:aT:=abY.1
def f252:aT:=abZ.1
def f253:aT:=ab0.1
def f254:aT:=ab1.1
def f255:aT:=ab2.1
def f175:aT:=ab3.1
def f282:aT:=ab4.1
def f283:aT:=ab5.1
def f284:aT:=ab6.1
def f285:aT:=ab7.1
def f260:aT:=ab8.1
def f277:aT:=ab9.1
def f287:aT:=aca.1
def f288:aT:=acb.1
def f289:aT:=acd.1
def f299:aT:=ace.1
def f300:aT:=acf.1
abbrev Vx:=tL Kb.1 0
abbrev Vy:=tL Kb.1 1
abbrev Vz:=tL Kb.1 2
abbrev VA:=tL Kb.1 3
abbrev VB:=tL Kb.1 4
abbrev VC:=tL Kb.1 5
abbrev Af:=(lp3 VD.1 0).1
abbrev Ag:=(lp3 VD.1 0).2.1
def Kc:a8:=VD.1.body
abbrev Kd:=tL c83.1 1
abbrev YU:=tL c83.1 3
abbrev YV:=tL c83.1 5
def XV:a8:=c83.1.body
abbrev amn:=tL aga.1 0
abbrev VE:=tL QM.1 0
abbrev wg:=tL QM.1 1
abbrev Fk:=tL QM.1 2
abbrev VF:=(lp3 QN.1 0).1
abbrev VG:=(lp3 QN.1 0).2.1
abbrev VH:=(lp3 QN.1 0).2.2
abbrev Ah:=(lp3 QN.1 1).2.1
abbrev Mp:=tL acg.1 0
abbrev VI:=tL Vw.1 0
abbrev VJ:=tL Vw.1 1
abbrev Mq:=tL ach.1 0
def QO:List (Nat×aT):=[(724,Kb.1),(728,aff.1),(729,afg.1),(730,afh.1),(607,afi.1),(704,afj.1),(96,c96.1),(644,afk.1),(645,afl.1),(735,afm.1),(622,VD.1),(736,afn.1),(737,afo.1),(610,afp.1),(738,afq.1),(77,c77.1),(739,afr.1),(740,afs.1),(706,aft.1),(707,afu.1),(695,afv.1),(132,aa9.1),(708,afw.1),(709,afx.1),(133,aba.1),(657,afy.1),(658,afz.1),(659,afA.1),(151,abb.1),(153,abc.1),(155,abd.1),(157,abe.1),(637,afB.1),(753,afC.1),(754,afD.1),(497,afE.1),(625,afF.1),(626,afG.1),(627,afH.1),(755,afI.1),(83,c83.1),(84,c84.1),(85,c85.1),(86,c86.1),(87,c87.1),(756,afJ.1),(710,afK.1),(40,c40.1),(711,afL.1),(23,c23.1),(665,afM.1),(666,afN.1),(667,afO.1),(668,afP.1),(191,abf.1),(192,abg.1),(193,abh.1),(194,abi.1),(162,afQ.1),(643,afR.1),(511,afS.1),(638,afT.1),(113,abj.1),(114,abk.1),(115,abl.1),(116,afU.1),(117,afV.1),(118,afW.1),(93,c93.1),(119,afX.1),(120,abm.1),(121,abn.1),(122,abo.1),(765,afY.1),(50,c50.1),(51,c51.1),(712,abp.1),(713,afZ.1),(714,af0.1),(715,af1.1),(716,af2.1),(717,af3.1),(718,af4.1),(719,af5.1),(36,c36.1),(672,af6.1),(526,af7.1),(527,af8.1),(524,af9.1),(529,aga.1),(673,agb.1),(487,agc.1),(489,agd.1),(485,QM.1),(492,QN.1),(674,age.1),(675,agf.1),(676,agh.1),(677,agi.1),(678,agj.1),(679,agk.1),(680,agl.1),(681,agm.1),(8,c8.1),(12,c12.1),(7,c7.1),(9,c9.1),(682,abq.1),(22,c22.1),(160,agn.1),(307,ago.1),(308,agp.1),(306,agq.1),(131,abr.1),(161,agr.1),(163,abt.1),(164,ags.1),(54,c54.1),(55,c55.1),(720,agt.1),(721,agu.1),(722,agv.1),(534,agw.1),(540,agx.1),(144,abu.1),(535,agy.1),(541,agz.1),(219,abv.1),(37,c37.1),(27,c27.1),(543,agA.1),(544,agB.1),(545,agC.1),(501,agD.1),(500,agE.1),(502,agF.1),(17,c17.1),(505,abw.1),(506,agG.1),(507,acg.1),(496,agH.1),(508,agI.1),(683,agJ.1),(684,agK.1),(685,agL.1),(686,agM.1),(687,agN.1),(688,agO.1),(689,agP.1),(690,agQ.1),(691,agR.1),(15,c15.1),(24,c24.1),(16,c16.1),(18,c18.1),(19,c19.1),(20,c20.1),(21,c21.1),(25,c25.1),(26,c26.1),(42,c42.1),(692,abx.1),(179,aby.1),(197,abz.1),(180,abA.1),(514,agS.1),(33,c33.1),(515,agT.1),(216,abB.1),(516,agU.1),(198,abC.1),(199,abD.1),(200,abE.1),(201,abF.1),(202,abG.1),(723,agV.1),(550,agW.1),(551,agX.1),(181,abH.1),(182,abI.1),(183,abJ.1),(184,abK.1),(547,agY.1),(552,agZ.1),(553,Vw.1),(554,ag0.1),(555,ag1.1),(556,ag2.1),(41,c41.1),(557,ag3.1),(495,ach.1),(280,abL.1),(38,c38.1),(693,ag4.1),(694,ag5.1),(696,ag6.1),(697,ag7.1),(698,ag8.1),(699,ag9.1),(34,c34.1),(35,c35.1),(700,abM.1),(235,abN.1),(236,abO.1),(237,abP.1),(238,abQ.1),(187,abR.1),(220,abS.1),(189,abT.1),(222,aha.1),(565,ahb.1),(566,ahc.1),(186,abU.1),(510,ahd.1),(701,ahe.1),(702,ahf.1),(703,ahg.1),(705,abV.1),(270,abW.1),(271,abX.1),(224,ahh.1),(227,ahi.1),(251,abY.1),(252,abZ.1),(253,ab0.1),(254,ab1.1),(255,ab2.1),(175,ab3.1),(223,ahj.1),(429,ahk.1),(430,ahl.1),(282,ab4.1),(283,ab5.1),(284,ab6.1),(285,ab7.1),(259,ahm.1),(260,ab8.1),(276,ahn.1),(277,ab9.1),(287,aca.1),(288,acb.1),(289,acd.1),(298,aho.1),(299,ace.1),(300,acf.1),(304,ahp.1)]
def QP:List (Nat× (List V->Option fu)):=[(32,dX 2 8278675785407),(28,dX 4 2872193639704),(29,dX 5 2469078742875),(30,dX 8 1450901941607),(31,dX 7 1927910799188),(149,dX 1 15637498705947),(52,DE),(132,Hf),(544,rz 5 545 (P4 2 4)),(25,rz 5 26 (by1 2)),(253,rz 2 254 (P4 0 1))]
def Mr:List (Nat× (List V->Option (List (List V)))):=[(221,Mj),(564,QB),(765,J2)]
def E:Env:=mkEM QO QP [(622,Mk)] Mr [(706,DH),(707,DG)]
theorem aci (a:List V):E.ext 132 a=Hf a:=rfl
theorem acj:E.fn 113=some f113:=rfl
theorem ack (a:List V):E.ext 113 a=none:=rfl
theorem XW:E.fn 114=some f114:=rfl
theorem XX (a:List V):E.ext 114 a=none:=rfl
theorem aco:E.fn 121=some f121:=rfl
theorem acp (a:List V):E.ext 121 a=none:=rfl
theorem acs:E.fn 712=some ae7:=rfl
theorem acu (a:List V):E.ext 712 a=none:=rfl
theorem acv:E.fn 485=some ae8:=rfl
theorem acw (a:List V):E.ext 485 a=none:=rfl
theorem acx:E.fn 682=some ae9:=rfl
theorem acy (a:List V):E.ext 682 a=none:=rfl
theorem acz:E.fn 163=some f163:=rfl
theorem acA (a:List V):E.ext 163 a=none:=rfl
theorem acB:E.fn 505=some afa:=rfl
theorem acC (a:List V):E.ext 505 a=none:=rfl
theorem acD:E.fn 42=some f42:=rfl
theorem acE (a:List V):E.ext 42 a=none:=rfl
theorem QQ:E.fn 692=some afb:=rfl
theorem QR (a:List V):E.ext 692 a=none:=rfl
theorem acN:E.fn 700=some afd:=rfl
theorem acO (a:List V):E.ext 700 a=none:=rfl
theorem acX:E.fn 705=some afe:=rfl
theorem acY (a:List V):E.ext 705 a=none:=rfl
theorem adb (a:List V):E.ext 32 a=dX 2 8278675785407 a:=rfl
theorem ade (a:List V):E.ext 28 a=dX 4 2872193639704 a:=rfl
theorem adf (a:List V):E.ext 29 a=dX 5 2469078742875 a:=rfl
theorem adg (a:List V):E.ext 30 a=dX 8 1450901941607 a:=rfl
theorem adh (a:List V):E.ext 31 a=dX 7 1927910799188 a:=rfl
theorem adi (a:List V):E.ext 149 a=dX 1 15637498705947 a:=rfl
theorem adj (a:List V):E.ext 52 a=DE a:=rfl
end Go.AM
