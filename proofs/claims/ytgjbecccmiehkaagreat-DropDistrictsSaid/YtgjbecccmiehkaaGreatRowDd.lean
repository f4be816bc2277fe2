/- hachurelaw12.DropDistricts: whatever the numbers and the bytes: it returns true; the arguments read asq before. Conditions: none. Own work, printed by mkrowd.py. -/
import Derived.Test.YtgjbecccmiehkaaGreatRw
import Derived.Test.YtgjbecccmiehkaaGreatGbf
import Derived.Test.YtgjbecccmiehkaaGreatSan
set_option maxHeartbeats 4000000
set_option linter.unusedSimpArgs false
set_option linter.unusedVariables false
namespace Go.AM
open Go.ChangeShapes Go.WideShapes Go.ChangeAt Go.RowKit Go.Proofs Go.Proofs.YtgjbecccmiehkaaGreat
set_option maxRecDepth 100000 in
theorem AV (H:Type) (enc:TypeId×Value→H) (W:World) (base:Nat) (args:Array Value) (ds gs:List (DataW H)) (before:List MemPlace)
  (vM: ∀ (j:Nat) t v,Tryz.f3.params[j]? =some t→args[j]? =some v→Value.okWide Tryz.prog W .any base t v)
  (hW:DataW.Whole enc Tryz.prog Tryz.f3.params.toList Rows.dropDistrictsSpec.vars false W args.toList ds gs before):
  Calls Tryz.prog 3 args W fun e W'=> ∃v,e= .returned v∧Rows.dropDistrictsSpec.post enc Tryz.prog Tryz.f3 false true false false W args v W':=by
 have Rm:=hW
 obtain⟨p,q,V7,hV,rfl,eB,gM⟩:=hW
 have hA:DataW.TrodAll enc Tryz.prog W 0 (fun _=>true) true Tryz.f3.params.toList args.toList ds p:=V7
 rw[Tryz.params3] at hA vM
 obtain⟨v0,Zc,d0,Zd,p0,q0,ia,rfl,rfl,h0,r0⟩:=trodAll_cons hA
 obtain⟨v1,Yl,d1,Ze,p1,q1,rfl,rfl,rfl,h1,r1⟩:=trodAll_cons r0
 obtain⟨rfl,rfl,rfl⟩:=trodAll_nil r1
 obtain rfl:args= #[v0,v1]:=by cases args;simp_all
 obtain⟨rfl,rfl⟩:=trodVars_none hV
 clear V7
 have yG:=Rm
 simp only[aaU] at Rm
 obtain⟨a0,Uq,Ur,rfl⟩:=okWide_slice Tryz.underlying22 (vM 0 22 v0 rfl rfl)
 obtain⟨a1,MM,MN,rfl⟩:=okWide_slice Tryz.underlying23 (vM 1 23 v1 rfl rfl)
 have YC:=h0;have YD:=h1
 obtain⟨AI,YE⟩:=h0
 obtain⟨Zf,YF,Zg,Zh,YG⟩:=trod_good (X:=X0) DY AI 22 _ _ Zn YE
 obtain⟨ls,Ny,xD,N5⟩:=Ia YF
 obtain⟨Qr,Rf⟩:=h1
 obtain⟨Zi,g10,g11,g12,g13⟩:=trod_good (X:=X0) DY Qr 23 _ _ Zn Rf
 obtain⟨sq,ij,qV,A9⟩:=MO g10
 have Us: ∀x ∈ p0,x.block<W.heap.size:=fun x hx=>Rm.lt x (by simp[hx])
 have Ut: ∀x ∈ p1,x.block<W.heap.size:=fun x hx=>Rm.lt x (by simp[hx])
 have hm:maxLen< 9223372036854775808:=Zn
 refine(Fg (F:=3) Qs rfl Tryz.func3 Zo rfl (Dr.rI Ib (Ic Ny xD) Zl qV) (by simp[V.al,V.aq,CS,AM.cA (f:=V.int .u8) (fun _=>rfl)]) (vals:=[.slice a0 Uq Ur,.slice a1 MM MN])
  (fun φ=>by
    simp only[ah]
    exact⟨N5 _ _ _ (YG φ),(by
     have h:=g13 φ
     have e1: (Value.slice a1 MM MN).cells.toList=[Value.slice a1 MM MN]:=rfl
     rw[e1] at h
     rcases A9 with⟨rfl,rfl⟩ | rfl
     ·exact yH h.1
     ·exact h.1),trivial⟩)).mono fun e W' ⟨he,hb,hz⟩=> ?_
 subst he
 refine⟨_,rfl,Fc (pa:=p0++(p1++([]))) (pv:=[]) yG (fun _ _ _=> (trodAll_cons_mk (shut_bool Tryz.underlying4 _) trodAll_mk0))
  (fun sp wF=> (trodAll_cons_mk (WideElems.Trod_stays Ie Zo (of_decide_eq_true Zo) YC (fun x hx=>hb.same (Us x hx)) (fun x hx=>wF x (by simp[hx])))
    (trodAll_cons_mk (WideElems.Trod_stays Ie Zo (of_decide_eq_true Zo) YD (fun x hx=>hb.same (Ut x hx)) (fun x hx=>wF x (by simp[hx])))
    trodAll_mk0))) (fun _ _=>rfl) Zm
  (CT hb _) hz (ok_one Zo rfl (okWide_bool_mk Tryz.underlying4 _))⟩
set_option maxRecDepth 100000 in
theorem Fh (os:Os) (started:os.Started) (H:Type) (enc:TypeId×Value→H):
  ReturnsInHanded {} Tryz.checked os 3 .any (Rows.dropDistrictsSpec.pre6 enc Tryz.prog Tryz.f3 Rows.dropDistrictsRow.domain false) (Rows.dropDistrictsSpec.post enc Tryz.prog Tryz.f3 false true false false):=by
 refine returnsInHanded_of_change (C:=Tryz.checked) Qt started Zo Tryz.func3
  (ChangeSpec.witness6 (enc:=enc) (C:=Tryz.checked) false ⟨#[],#[.slice none 0 0,.slice none 0 0],[]⟩ 8 Zo Zo Zo Zo) ?_
 intro W base args ds gs before vM hW _ _
 exact AV H enc W base args ds gs before vM hW
theorem Ig:joinedFacts Tryz.prog 3 Tryz.f3 Rows.dropDistrictsSpec Rows.dropDistrictsRow=true:=by
 unfold joinedFacts
 simp only[Zt]
 and_intros<;>decide+kernel
theorem Ih:Tryz.prog.funcNamed Rows.dropDistrictsRow.func=some 3:=Zo
theorem J5:Rows.dropDistrictsRow.holds Tryz.pinned (OpenSpec.ofChange Rows.dropDistrictsSpec):=
 OpenClaim.holds_of_wide 3 Tryz.f3 rfl rfl rfl rfl rfl rfl rfl ⟨rfl,rfl,rfl,rfl,rfl⟩ rfl rfl rfl rfl rfl Ih Tryz.func3 Ig
  (of_decide_eq_true Zo) (by unfold Func.isWrapper;first| (rw[if_pos (by decide+kernel)];kernel_rfl) | (rw[if_neg (by decide+kernel)];exact⟨rfl,rfl⟩))
  (fun os started H enc _=>Fh os started H enc)
end Go.AM
namespace Go.Proofs.YtgjbecccmiehkaaGreat
theorem dropDistricts_holds:Rows.DropDistrictsSaid:=Go.AM.J5
#print axioms dropDistricts_holds
end Go.Proofs.YtgjbecccmiehkaaGreat
