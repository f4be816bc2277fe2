/-
  Texts of the proof: AmTrPr.
-/
import Derived.Test.YtjmcpijpclfakaaGreatFns
import Derived.Test.YtjmcpijpclfakaaGreatOpsC
import Derived.Test.YtjmcpijpclfakaaGreatIa8
import Derived.Test.YtjmcpijpclfakaaGreatRows
set_option linter.unusedSimpArgs false
set_option linter.unusedVariables false
set_option maxRecDepth 100000
namespace Go.AM
open Go.Proofs
theorem ae1:sN X0 Tryz.f69 4 2872193639704:=⟨⟨_,_,_,_,_,_,_,_,rfl,by kernel_rfl,by kernel_rfl,⟨.agg [.int .i64 0,.int .i64 0,.int .i64 0,.nils],by kernel_rfl,by decide,by kernel_rfl⟩,⟨_,_,_,65,rfl,by kernel_rfl,rfl,rfl,rfl,by kernel_rfl⟩⟩,rfl,by decide⟩
theorem ae2:sN X0 Tryz.f105 1 8278675785407:=⟨⟨_,_,_,_,_,_,_,_,rfl,by kernel_rfl,by kernel_rfl,⟨.str [],by kernel_rfl,by decide,by kernel_rfl⟩,⟨_,_,_,9,rfl,by kernel_rfl,rfl,rfl,rfl,by kernel_rfl⟩⟩,rfl,by decide⟩
theorem xb:jM EW=true:=by kernel_rfl
theorem MV:jM (EX.map (·.2))=true:=by kernel_rfl
theorem agG {g F:Nat} {af:aU} {h:Hints} {fn:Func} (h2:X0.P.funcs[F]? =some fn) (h5:aN X0 h fn=some af) (h1:X0.kh F=some g:=by rfl) (h3: (fn.name== "runtime.NumGoroutine")=false:=by kernel_rfl) (h4: ∃c,fn.body=some c:=by exact⟨_,rfl⟩) (h6:af.nparams≤fn.ntmps:=by decide+kernel):MB X0 g af:=
 h4.elim fun c h4=> ⟨F,fn,h,c,h1,h2,h3,h4,h5,h6⟩
theorem Ib:lU X0 FL:=⟨agG Tryz.func4 agJ.2,
 agG Tryz.func5 agK.2,
 agG Tryz.func6 agL.2,
 agG Tryz.func9 agM.2,
 agG Tryz.func10 agN.2,
 agG Tryz.func11 agO.2,
 agG Tryz.func13 agP.2,
 agG Tryz.func14 agQ.2,
 agG Tryz.func15 agR.2,
 agG Tryz.func16 agS.2,
 agG Tryz.func18 agT.2,
 agG Tryz.func19 agU.2,
 agG Tryz.func20 agV.2,
 agG Tryz.func21 agW.2,
 agG Tryz.func22 agX.2,
 agG Tryz.func23 agY.2,
 agG Tryz.func24 agZ.2,
 agG Tryz.func25 ag0.2,
 agG Tryz.func26 c85.2,
 agG Tryz.func27 ag1.2,
 agG Tryz.func29 ag2.2,
 agG Tryz.func30 c93.2,
 agG Tryz.func31 ag3.2,
 agG Tryz.func32 ag4.2,
 agG Tryz.func33 ag5.2,
 agG Tryz.func34 ag6.2,
 agG Tryz.func35 ag7.2,
 agG Tryz.func36 ag8.2,
 agG Tryz.func37 ag9.2,
 agG Tryz.func38 aha.2,
 agG Tryz.func39 ahb.2,
 agG Tryz.func40 ahc.2,
 agG Tryz.func41 ahd.2,
 agG Tryz.func42 ahe.2,
 agG Tryz.func43 ahf.2,
 agG Tryz.func44 ahg.2,
 agG Tryz.func45 ahh.2,
 agG Tryz.func46 ahi.2,
 agG Tryz.func47 ahj.2,
 agG Tryz.func48 ahk.2,
 agG Tryz.func49 ahl.2,
 agG Tryz.func50 ahm.2,
 agG Tryz.func51 ahn.2,
 agG Tryz.func52 aho.2,
 agG Tryz.func53 ahp.2,
 agG Tryz.func54 ahq.2,
 agG Tryz.func55 ahr.2,
 agG Tryz.func56 ahs.2,
 agG Tryz.func57 aht.2,
 agG Tryz.func58 ahu.2,
 agG Tryz.func59 ahv.2,
 agG Tryz.func60 ahw.2,
 agG Tryz.func61 ahx.2,
 agG Tryz.func62 ahy.2,
 agG Tryz.func64 ahz.2,
 agG Tryz.func65 ahA.2,
 agG Tryz.func66 ahB.2,
 agG Tryz.func67 ahC.2,
 agG Tryz.func68 ahD.2,
 agG Tryz.func70 ahE.2,
 agG Tryz.func71 ahF.2,
 agG Tryz.func72 ahG.2,
 agG Tryz.func73 ahH.2,
 agG Tryz.func74 ahI.2,
 agG Tryz.func75 ahJ.2,
 agG Tryz.func76 ahK.2,
 agG Tryz.func77 ahL.2,
 agG Tryz.func78 ahM.2,
 agG Tryz.func79 ahN.2,
 agG Tryz.func80 ahO.2,
 agG Tryz.func81 ahP.2,
 agG Tryz.func82 ahQ.2,
 agG Tryz.func83 ahR.2,
 agG Tryz.func84 ahS.2,
 agG Tryz.func85 ahT.2,
 agG Tryz.func86 ahU.2,
 agG Tryz.func87 ahV.2,
 agG Tryz.func88 ahW.2,
 agG Tryz.func89 ahX.2,
 agG Tryz.func90 ahY.2,
 agG Tryz.func91 ahZ.2,
 agG Tryz.func92 ah0.2,
 agG Tryz.func93 ah1.2,
 agG Tryz.func94 ah2.2,
 agG Tryz.func95 ah3.2,
 agG Tryz.func96 ah4.2,
 agG Tryz.func97 ah5.2,
 agG Tryz.func98 ah6.2,
 agG Tryz.func99 ah7.2,
 agG Tryz.func100 ah8.2,
 agG Tryz.func101 ah9.2,
 agG Tryz.func102 aia.2,
 agG Tryz.func103 aib.2,
 agG Tryz.func104 aic.2,
 agG Tryz.func106 aid.2,
 agG Tryz.func107 aie.2,
 agG Tryz.func108 aif.2,
 agG Tryz.func109 aih.2,
 agG Tryz.func110 aii.2,
 agG Tryz.func111 aij.2,
 agG Tryz.func112 aik.2,
 agG Tryz.func113 ail.2,
 agG Tryz.func114 aim.2,
 agG Tryz.func115 ain.2,
 agG Tryz.func116 aio.2,
 agG Tryz.func117 aip.2,
 agG Tryz.func118 aiq.2,
 agG Tryz.func119 air.2,
 agG Tryz.func120 ais.2,
 agG Tryz.func121 ait.2,
 agG Tryz.func122 aiu.2,
 agG Tryz.func123 aiv.2,
 agG Tryz.func124 aiw.2,
 agG Tryz.func125 aix.2,
 agG Tryz.func126 aiy.2,
 agG Tryz.func127 aiz.2,
 agG Tryz.func128 aiA.2,
 agG Tryz.func129 aiB.2,
 agG Tryz.func130 aiC.2,
 agG Tryz.func131 aiD.2,
 agG Tryz.func132 aiE.2,
 agG Tryz.func133 aiF.2,
 agG Tryz.func134 aiG.2,
 agG Tryz.func135 aiH.2,
 agG Tryz.func136 aiI.2,
 agG Tryz.func137 aiJ.2,
 agG Tryz.func138 aiK.2,
 agG Tryz.func139 aiL.2,
 agG Tryz.func140 aiM.2,
 agG Tryz.func141 aiN.2,
 agG Tryz.func142 aiO.2,
 agG Tryz.func143 aiP.2,trivial⟩
theorem R6: ∀t1 t2 k,X0.ku t1=some k→X0.ku t2=some k→t1=t2:=(zI (P:=Tryz.prog) (fl:=EW) (tl:=EX) (tab:=[]) (ext:=[]) (hyb:=[]) (iter:=[]) xb MV (by kernel_rfl) trivial trivial trivial trivial).inj
theorem EY:qn X0 Cg:=⟨⟨69,rfl,fun _ _ h=>w9 R6 Tryz.func69 (by kernel_rfl) ae1 h⟩,
 ⟨105,rfl,fun _ _ h=>w9 R6 Tryz.func105 (by kernel_rfl) ae2 h⟩,trivial⟩
theorem BC:ou X0 Ch:=trivial
theorem CW:wc X0 E0:=zI (P:=Tryz.prog) (fl:=EW) (tl:=EX) xb MV (by kernel_rfl) Ib EY trivial BC
def JZ:Hints:=⟨[],[],[(126,97),(67,97)],[(21,[1,0]),(28,[0,0,0,0,0,0,0,0,7,0,0,0,0,0,0,7,0,0,0,0,0,0,7,0,0,0,0,0,0,7]),(108,[0,0,0,0,0,0,7]),(134,[1,0]),(65,[0,0,0,0,0,0,0,0,7,0,0,0,0,0,0,7,0,0,0,0,0,0,7,0,0,0,0,0,0,7])],[(4,81,30)],[(5,11,97),(5,126,97)],[],[],[135,22],[],none,[],0,[],[]⟩
noncomputable def YV:Code:=(Tryz.f19.body).getD .skip
theorem XY:Tryz.f19.body=some YV:=by kernel_rfl
theorem cq8:bA X0 {JZ with n:=140,AY:=[],full:=[]} YV=some Cb:=by kernel_rfl
theorem aiQ: (fun g N:Nat=>bA X0 {JZ with n:=140,AY:=[(67,97,g,N)],full:=[]} YV)=fun g N=>some (Cd g N):=by kernel_rfl
theorem aiR: (fun g N:Nat=>bA X0 {JZ with n:=140,AY:=[],full:=[(67,98,97,g,N)]} YV)=fun g N=>some (Cf g N):=by kernel_rfl
theorem t8:T3 X0 {JZ with n:=140,AY:=[],full:=[]} (fun g N=> {JZ with n:=140,AY:=[(67,97,g,N)],full:=[]}) (fun g N=> {JZ with n:=140,AY:=[],full:=[(67,98,97,g,N)]}) YV Cb Cd Cf:=
 ⟨cq8,fun g N=>congrFun (congrFun aiQ g) N,fun g N=>congrFun (congrFun aiR g) N⟩
theorem XZ (B:Nat→Prop) (K:Nat×Nat):Ht ⟨X0,B,K⟩ E0:=
 ⟨CW.mixed,fun g F caps xs h1 h2 μ lb h3 h4=>CW.iter g F caps xs h1 h2 B K μ lb h3 h4,fun m=>CR CW.inj fun f F ar res h1 h2=>qk CW m f F ar res h1 h2⟩
theorem X1 {cs:List V} (h:cs.length=30): ∃a0 a1 w0 w1 w2 w3 w4 w5 w6 z0 z1 z2 z3 z4 z5 z6 z7 z8 z9 I7 I8 I9 Ja Jb Jc Jd Je Jf Jg Jh,cs=[a0,a1,w0,w1,w2,w3,w4,w5,w6,z0,z1,z2,z3,z4,z5,z6,z7,z8,z9,I7,I8,I9,Ja,Jb,Jc,Jd,Je,Jf,Jg,Jh]:=by
 rcases cs with _| ⟨a0,cs⟩
 · simp at h
 rcases cs with _| ⟨a1,cs⟩
 · simp at h
 rcases cs with _| ⟨w0,cs⟩
 · simp at h
 rcases cs with _| ⟨w1,cs⟩
 · simp at h
 rcases cs with _| ⟨w2,cs⟩
 · simp at h
 rcases cs with _| ⟨w3,cs⟩
 · simp at h
 rcases cs with _| ⟨w4,cs⟩
 · simp at h
 rcases cs with _| ⟨w5,cs⟩
 · simp at h
 rcases cs with _| ⟨w6,cs⟩
 · simp at h
 rcases cs with _| ⟨z0,cs⟩
 · simp at h
 rcases cs with _| ⟨z1,cs⟩
 · simp at h
 rcases cs with _| ⟨z2,cs⟩
 · simp at h
 rcases cs with _| ⟨z3,cs⟩
 · simp at h
 rcases cs with _| ⟨z4,cs⟩
 · simp at h
 rcases cs with _| ⟨z5,cs⟩
 · simp at h
 rcases cs with _| ⟨z6,cs⟩
 · simp at h
 rcases cs with _| ⟨z7,cs⟩
 · simp at h
 rcases cs with _| ⟨z8,cs⟩
 · simp at h
 rcases cs with _| ⟨z9,cs⟩
 · simp at h
 rcases cs with _| ⟨I7,cs⟩
 · simp at h
 rcases cs with _| ⟨I8,cs⟩
 · simp at h
 rcases cs with _| ⟨I9,cs⟩
 · simp at h
 rcases cs with _| ⟨Ja,cs⟩
 · simp at h
 rcases cs with _| ⟨Jb,cs⟩
 · simp at h
 rcases cs with _| ⟨Jc,cs⟩
 · simp at h
 rcases cs with _| ⟨Jd,cs⟩
 · simp at h
 rcases cs with _| ⟨Je,cs⟩
 · simp at h
 rcases cs with _| ⟨Jf,cs⟩
 · simp at h
 rcases cs with _| ⟨Jg,cs⟩
 · simp at h
 rcases cs with _| ⟨Jh,cs⟩
 · simp at h
 rcases cs with _| ⟨y,cs⟩
 · exact⟨a0,a1,w0,w1,w2,w3,w4,w5,w6,z0,z1,z2,z3,z4,z5,z6,z7,z8,z9,I7,I8,I9,Ja,Jb,Jc,Jd,Je,Jf,Jg,Jh,rfl⟩
 · simp at h
theorem GI {ar:List V} {res:iE} (h:Fx ar=some res):dA X0 19 ar res:=by
 unfold Fx at h
 split at h
 · rename_i vs q0 q1 q2
   split at h
   · rename_i hc
     obtain⟨h8,hp,h4,en⟩:=hc
     split at h
     · rename_i cs nT
       injection h with h
       have LG:=dG (a:=q1) (n:=12) (by decide) (by decide)
       have PX:=dG (a:=q2) (n:=vs.length) hp (by omega)
       have CE:=List.all_eq_true.1 en
       have NC:=CE _ (List.mem_of_getElem? nT)
       have oL: (vs.all fun x=>aZ x 30)=true:=List.all_eq_true.2 fun x hx=>by
        have:=CE x hx
        unfold QV at this
        simp only[Bool.and_eq_true] at this
        exact this.1.1
       have Nz:V.ae vs=true:=by
        clear nT oL en
        clear PX h4 hp h NC
        induction vs with
        | nil=>rfl
        | cons x xs ih=>
          have hx:=CE x (List.mem_cons_self ..)
          unfold QV at hx
          simp only[Bool.and_eq_true] at hx
          simp only[V.ae,hx.1.2,ih fun y hy=>CE y (List.mem_cons_of_mem _ hy),Bool.and_self]
       unfold QV at NC
       simp only[Bool.and_eq_true] at NC
       have hlen:cs.length=30:=by
        have:=NC.1.1
        unfold aZ at this
        simp only[Bool.and_eq_true,beq_iff_eq] at this
        exact this.1
       obtain⟨a0,a1,w0,w1,w2,w3,w4,w5,w6,z0,z1,z2,z3,z4,z5,z6,z7,z8,z9,I7,I8,I9,Ja,Jb,Jc,Jd,Je,Jf,Jg,Jh,rfl⟩:=X1 hlen
       have hpw:V.ae [w0,w1,w2,w3,w4,w5,w6]=true:=by
        have:=NC.1.2
        simp only[V.aj,V.ae,Bool.and_eq_true] at this ⊢
        simp only[this,and_self]
       have e1: ((yn q1 12).toNat:Int)=cR q1 12:=Int.toNat_of_nonneg LG.1
       have e2: ((yn q2 vs.length).toNat:Int)=cR q2 vs.length:=Int.toNat_of_nonneg PX.1
       have Db: (yn q2 vs.length).toNat<vs.length:=(List.getElem?_eq_some_iff.1 nT).1
       have hx: ∀l,(vs++l)[(yn q2 vs.length).toNat]? =some (.agg [a0,a1,w0,w1,w2,w3,w4,w5,w6,z0,z1,z2,z3,z4,z5,z6,z7,z8,z9,I7,I8,I9,Ja,Jb,Jc,Jd,Je,Jf,Jg,Jh]):=fun l=>by
        rw[List.getElem?_append_left Db];exact nT
       have hn: (yn q1 12).toNat< 12:=by
        have h2:cR q1 12 < 12:=LG.2
        omega
       subst h
       exact GD (X:=X0) (F:=19) (fn:=Tryz.f19) (c:=YV) (rs:=FK.results) Tryz.func19 (by kernel_rfl) XY (by kernel_rfl) rfl (by decide+kernel)
        fun B K l=>Lg (X:=⟨X0,B,K⟩) (n0:=⟨140,l,none⟩) (XZ B K) t8 rfl ⟨rfl,rfl⟩ (fun _ _=> ⟨rfl,rfl,rfl⟩) (fun _ _=> ⟨rfl,rfl,rfl⟩) h8 e1.symm hn ⟨hp,h4⟩ Nz oL e2.symm Db hpw hx _ rfl
     · simp at h
   · simp at h
 · simp at h
theorem J0:qn X0 ((325,Fx)::Cg):=⟨⟨19,rfl,fun _ _ h=>GI h⟩,EY⟩
theorem acK:wc X0 E:=zI (P:=Tryz.prog) (fl:=EW) (tl:=EX) xb MV (by kernel_rfl) Ib J0 trivial BC
end Go.AM
