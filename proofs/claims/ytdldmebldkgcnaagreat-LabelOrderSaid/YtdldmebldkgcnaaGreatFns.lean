/- Texts of the proof. -/
import Derived.Test.YtdldmebldkgcnaaGreatSd
import Derived.Test.YtdldmebldkgcnaaGreatFpa
import Derived.Test.YtdldmebldkgcnaaGreatFpb
import Derived.Test.YtdldmebldkgcnaaGreatFpc
import Derived.Test.YtdldmebldkgcnaaGreatFpd
import Derived.Test.YtdldmebldkgcnaaGreatFpe
set_option linter.unusedSimpArgs false
set_option linter.unusedVariables false
set_option maxRecDepth 100000
namespace Go.AM
open Go.Proofs
def alc:aY→List (aY×aY×aY)
 | .seq a b=>alc a++alc b
 | .block _ a=>alc a
 | .scope a=>alc a
 | .cond _ a b=>alc a++alc b
 | .loop a=>alc a++[(.skip,a,.skip)]
 | .pW _ _ a b=>alc a++alc b++[(a,b,.skip)]
 | .keys _ _ _ _ _ _ a b c=>alc a++alc b++alc c++[(a,b,c)]
 | _=> []
abbrev lp3 (f:aQ) (i:Nat):aY×aY×aY:=(alc f.body).getD i (.skip,.skip,.skip)
def aeo:aQ:=Ym.1
def f77:aQ:=c77.1
def aaO:aQ:=aaP.1
def f27:aQ:=c27.1
def f83:aQ:=c83.1
def f84:aQ:=c84.1
def f85:aQ:=c85.1
def f86:aQ:=c86.1
def f87:aQ:=c87.1
def aep:aQ:=aaQ.1
def f132:aQ:=aaR.1
def f133:aQ:=aaS.1
def f37:aQ:=c37.1
def f38:aQ:=c38.1
def f189:aQ:=aaT.1
def f41:aQ:=c41.1
def f113:aQ:=aaU.1
def f114:aQ:=aaV.1
def f117:aQ:=aaW.1
def f118:aQ:=aaX.1
def f119:aQ:=aaY.1
def f120:aQ:=aaZ.1
def f121:aQ:=aa0.1
def f122:aQ:=aa1.1
def f33:aQ:=c33.1
def f22:aQ:=c22.1
def f23:aQ:=c23.1
def f40:aQ:=c40.1
def f298:aQ:=aa2.1
def f299:aQ:=aa3.1
def f131:aQ:=aa4.1
def f161:aQ:=aa5.1
def f162:aQ:=aa6.1
def f163:aQ:=aa7.1
def f164:aQ:=aa8.1
def f36:aQ:=c36.1
def f50:aQ:=c50.1
def f51:aQ:=c51.1
def f304:aQ:=aa9.1
def f259:aQ:=aba.1
def f260:aQ:=abb.1
def f198:aQ:=abc.1
def f199:aQ:=abd.1
def f200:aQ:=abe.1
def f201:aQ:=abf.1
def f202:aQ:=abg.1
def f54:aQ:=c54.1
def f55:aQ:=c55.1
def f235:aQ:=abh.1
def f236:aQ:=abi.1
def aeq:aQ:=Qv.1
def f8:aQ:=c8.1
def f12:aQ:=c12.1
def f7:aQ:=c7.1
def f9:aQ:=c9.1
def aer:aQ:=abj.1
def f271:aQ:=abk.1
def f144:aQ:=abl.1
def f219:aQ:=abm.1
def f17:aQ:=c17.1
def aes:aQ:=abn.1
def f15:aQ:=c15.1
def f24:aQ:=c24.1
def f16:aQ:=c16.1
def f18:aQ:=c18.1
def f19:aQ:=c19.1
def f20:aQ:=c20.1
def f21:aQ:=c21.1
def f25:aQ:=c25.1
def f26:aQ:=c26.1
def f42:aQ:=c42.1
def aet:aQ:=abo.1
def f282:aQ:=abp.1
def f179:aQ:=abq.1
def f181:aQ:=abr.1
def f182:aQ:=abt.1
def f183:aQ:=abu.1
def f184:aQ:=abv.1
def aeu:aQ:=UZ.1
def f216:aQ:=abw.1
def f180:aQ:=abx.1
def f34:aQ:=c34.1
def f35:aQ:=c35.1
def aev:aQ:=aby.1
def f187:aQ:=abz.1
def f220:aQ:=abA.1
def f222:aQ:=abB.1
def f186:aQ:=abC.1
def aew:aQ:=abD.1
def f224:aQ:=abE.1
def f175:aQ:=abF.1
def f223:aQ:=abG.1
def aex:aQ:=abH.1
def Yn:aY:=Ym.1.body
abbrev FF:=(lp3 Yo.1 0).1
abbrev zk:=(lp3 Yo.1 0).2.1
def JO:aY:=Yo.1.body
abbrev JP:=uX c83.1 1
abbrev Yp:=uX c83.1 3
abbrev Yq:=uX c83.1 5
def Xe:aY:=c83.1.body
abbrev U0:=uX abI.1 0
abbrev U1:=uX Qv.1 0
abbrev uY:=uX Qv.1 1
abbrev EO:=uX Qv.1 2
abbrev aeg:=(lp3 Yr.1 0).1
abbrev U2:=(lp3 Yr.1 0).2.1
abbrev aeh:=(lp3 Yr.1 0).2.2
abbrev zl:=(lp3 Yr.1 1).2.1
abbrev L3:=uX abJ.1 0
abbrev U3:=uX UZ.1 0
abbrev U4:=uX UZ.1 1
abbrev L4:=uX abK.1 0
def Qw:List (Nat×aQ):=[(587,aey.1),(588,Ym.1),(589,aez.1),(590,aeA.1),(591,aeB.1),(592,aeC.1),(596,aeD.1),(607,aeE.1),(602,aeF.1),(608,aeG.1),(609,aeH.1),(610,aeI.1),(600,aeJ.1),(598,aeK.1),(611,aeL.1),(599,aeM.1),(604,aeN.1),(612,aeO.1),(77,c77.1),(615,aeP.1),(616,aeQ.1),(617,aeR.1),(618,aaP.1),(96,c96.1),(622,Yo.1),(277,aeS.1),(623,aeT.1),(624,aeU.1),(625,aeV.1),(626,aeW.1),(627,aeX.1),(27,c27.1),(83,c83.1),(84,c84.1),(85,c85.1),(86,c86.1),(87,c87.1),(630,aaQ.1),(631,aeY.1),(632,aeZ.1),(633,ae1.1),(132,aaR.1),(133,aaS.1),(637,ae2.1),(287,ae3.1),(288,ae4.1),(289,ae5.1),(37,c37.1),(38,c38.1),(189,aaT.1),(638,ae6.1),(41,c41.1),(113,aaU.1),(114,aaV.1),(115,ae7.1),(116,ae8.1),(117,aaW.1),(118,aaX.1),(93,c93.1),(119,aaY.1),(120,aaZ.1),(121,aa0.1),(122,aa1.1),(33,c33.1),(642,ae9.1),(22,c22.1),(23,c23.1),(40,c40.1),(643,afa.1),(644,afb.1),(645,afc.1),(298,aa2.1),(299,aa3.1),(300,afd.1),(227,afe.1),(131,aa4.1),(161,aa5.1),(162,aa6.1),(163,aa7.1),(164,aa8.1),(655,aff.1),(656,afg.1),(36,c36.1),(50,c50.1),(51,c51.1),(657,afh.1),(658,afi.1),(659,afj.1),(304,aa9.1),(259,aba.1),(260,abb.1),(198,abc.1),(199,abd.1),(200,abe.1),(201,abf.1),(202,abg.1),(664,afk.1),(54,c54.1),(55,c55.1),(665,afl.1),(666,afm.1),(667,afn.1),(668,afo.1),(280,afp.1),(235,abh.1),(236,abi.1),(237,afq.1),(238,afr.1),(671,afs.1),(672,aft.1),(526,afu.1),(527,afv.1),(524,afw.1),(529,abI.1),(673,afx.1),(487,afy.1),(489,afz.1),(485,Qv.1),(492,Yr.1),(674,afA.1),(675,afB.1),(676,afC.1),(677,afD.1),(678,afE.1),(679,afF.1),(680,afG.1),(681,afH.1),(8,c8.1),(12,c12.1),(7,c7.1),(9,c9.1),(682,abj.1),(270,afI.1),(271,abk.1),(534,afJ.1),(540,afK.1),(144,abl.1),(535,afL.1),(541,afM.1),(219,abm.1),(543,afN.1),(544,afO.1),(545,afP.1),(501,afQ.1),(500,afR.1),(502,afS.1),(17,c17.1),(505,abn.1),(506,afT.1),(507,abJ.1),(496,afU.1),(508,afV.1),(683,afW.1),(684,afX.1),(685,afY.1),(686,afZ.1),(687,af0.1),(688,af1.1),(689,af2.1),(690,af3.1),(691,af4.1),(15,c15.1),(24,c24.1),(16,c16.1),(18,c18.1),(19,c19.1),(20,c20.1),(21,c21.1),(25,c25.1),(26,c26.1),(42,c42.1),(692,abo.1),(282,abp.1),(283,af5.1),(284,af6.1),(285,af7.1),(550,af8.1),(179,abq.1),(551,af9.1),(181,abr.1),(182,abt.1),(183,abu.1),(184,abv.1),(547,aga.1),(552,agb.1),(553,UZ.1),(554,agc.1),(555,agd.1),(556,age.1),(216,abw.1),(557,agf.1),(495,abK.1),(180,abx.1),(693,agh.1),(694,agi.1),(695,agj.1),(696,agk.1),(697,agl.1),(698,agm.1),(699,agn.1),(34,c34.1),(35,c35.1),(700,aby.1),(187,abz.1),(220,abA.1),(222,abB.1),(565,ago.1),(566,agp.1),(186,abC.1),(510,agq.1),(701,agr.1),(702,ags.1),(703,agt.1),(704,agu.1),(705,abD.1),(224,abE.1),(251,agv.1),(252,agw.1),(253,agx.1),(254,agy.1),(255,agz.1),(175,abF.1),(223,abG.1),(429,agA.1),(430,agB.1),(706,agC.1),(707,agD.1),(708,agE.1),(709,agF.1),(276,agG.1),(710,agH.1),(711,agI.1),(712,abH.1),(713,agJ.1),(714,agK.1),(715,agL.1),(716,agM.1),(717,agN.1),(718,agO.1),(719,agP.1),(720,agQ.1),(721,agR.1),(722,agS.1),(723,agT.1)]
def Qx:List (Nat× (List V→Option eZ)):=[(31,dI 7 1927910799188),(28,dI 4 2872193639704),(29,dI 5 2469078742875),(30,dI 8 1450901941607),(32,dI 2 8278675785407),(149,dI 1 15637498705947),(52,C1),(132,Gw),(544,lZ 5 545 (Yc 2 4)),(25,lZ 5 26 (by1 2)),(253,lZ 2 254 (Yc 0 1))]
def L5:List (Nat× (List V→Option (List (List V)))):=[(221,LU),(564,Qj)]
def E:Env:=mkEM Qw Qx [(622,LV)] L5 [(706,C4),(707,C3)]
theorem abL:E.fn 618=some aaO:=rfl
theorem abM:E.fn 630=some aep:=rfl
theorem abN (asq:List V):E.ext 630 asq=none:=rfl
theorem abO (asq:List V):E.ext 132 asq=Gw asq:=rfl
theorem abP:E.fn 113=some f113:=rfl
theorem abQ (asq:List V):E.ext 113 asq=none:=rfl
theorem abR:E.fn 114=some f114:=rfl
theorem abS (asq:List V):E.ext 114 asq=none:=rfl
theorem abT:E.fn 121=some f121:=rfl
theorem abU (asq:List V):E.ext 121 asq=none:=rfl
theorem abX:E.fn 131=some f131:=rfl
theorem abY (asq:List V):E.ext 131 asq=none:=rfl
theorem abZ:E.fn 162=some f162:=rfl
theorem ab0 (asq:List V):E.ext 162 asq=none:=rfl
theorem ab1:E.fn 163=some f163:=rfl
theorem ab2 (asq:List V):E.ext 163 asq=none:=rfl
theorem Xf:E.fn 485=some aeq:=rfl
theorem Xg (asq:List V):E.ext 485 asq=none:=rfl
theorem ab3:E.fn 682=some aer:=rfl
theorem ab4 (asq:List V):E.ext 682 asq=none:=rfl
theorem ab5:E.fn 505=some aes:=rfl
theorem ab6 (asq:List V):E.ext 505 asq=none:=rfl
theorem agU:E.fn 42=some f42:=rfl
theorem agV (asq:List V):E.ext 42 asq=none:=rfl
theorem Qy:E.fn 692=some aet:=rfl
theorem Qz (asq:List V):E.ext 692 asq=none:=rfl
theorem ab7:E.fn 700=some aev:=rfl
theorem ab8 (asq:List V):E.ext 700 asq=none:=rfl
theorem ab9:E.fn 705=some aew:=rfl
theorem aca (asq:List V):E.ext 705 asq=none:=rfl
theorem acb:E.fn 712=some aex:=rfl
theorem acd (asq:List V):E.ext 712 asq=none:=rfl
theorem ace (asq:List V):E.ext 31 asq=dI 7 1927910799188 asq:=rfl
theorem acf (asq:List V):E.ext 28 asq=dI 4 2872193639704 asq:=rfl
theorem acg (asq:List V):E.ext 29 asq=dI 5 2469078742875 asq:=rfl
theorem ach (asq:List V):E.ext 30 asq=dI 8 1450901941607 asq:=rfl
theorem aci (asq:List V):E.ext 32 asq=dI 2 8278675785407 asq:=rfl
theorem acj (asq:List V):E.ext 149 asq=dI 1 15637498705947 asq:=rfl
theorem ack (asq:List V):E.ext 52 asq=C1 asq:=rfl
end Go.AM
