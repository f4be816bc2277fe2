/-
  hachurelaw23.LabelLongest: whatever the numbers: it returns true; the argument reads behind the call what it read before. Conditions: none. Own work.
-/
import Derived.Test.YtdldmebldkgcnaaGreatRw
import Derived.Test.YtdldmebldkgcnaaGreatLz
set_option maxHeartbeats 4000000
set_option linter.unusedSimpArgs false
set_option linter.unusedVariables false
namespace Go.AM
open Go.ChangeShapes Go.WideShapes Go.ChangeAt Go.RowKit Go.Proofs Go.Proofs.YtdldmebldkgcnaaGreat
set_option maxRecDepth 100000 in
theorem I9 (H:Type) (enc:TypeId×Value→H) (W:World) (base:Nat) (args:Array Value) (ds gs:List (DataW H)) (before:List MemPlace)
  (jF: ∀ (j:Nat) t v,Tryz.f5.params[j]? =some t→args[j]? =some v→Value.okWide Tryz.prog W .any base t v)
  (hW:DataW.Whole enc Tryz.prog Tryz.f5.params.toList Rows.labelLongestSpec.vars false W args.toList ds gs before):
  Calls Tryz.prog 5 args W fun e W'=> ∃v,e= .returned v∧Rows.labelLongestSpec.post enc Tryz.prog Tryz.f5 false true false false W args v W':=by
 have F9:=hW
 obtain⟨p,q,T6,hV,rfl,gz,Pl⟩:=hW
 have hA:DataW.TrodAll enc Tryz.prog W 0 (fun _=>true) true Tryz.f5.params.toList args.toList ds p:=T6
 rw[Tryz.params5] at hA jF
 obtain⟨v0,vs0,d0,ds0,p0,q0,jb,rfl,rfl,h0,r0⟩:=trodAll_cons hA
 obtain⟨rfl,rfl,rfl⟩:=trodAll_nil r0
 obtain rfl:args= #[v0]:=by cases args;simp_all
 obtain⟨rfl,rfl⟩:=trodVars_none hV
 clear T6
 have zg:=F9
 simp only[ajq] at F9
 obtain⟨a0,LD,LF,rfl⟩:=okWide_slice Tryz.underlying22 (jF 0 22 v0 rfl rfl)
 have h0k:=h0
 obtain⟨rp,hf0⟩:=h0
 obtain⟨us0,g00,g01,g02,g03⟩:=trod_good (X:=X0) nH rp 22 _ _ aiO hf0
 obtain⟨ls,Fb,Cj,Ni⟩:=wy g00
 have LG: ∀x ∈ p0,x.block<W.heap.size:=fun x hx=>F9.lt x (by simp[hx])
 have hm:maxLen< 9223372036854775808:=aiO
 refine(sB (F:=5) M3 rfl Tryz.func5 aiQ rfl (KS (wz Fb Cj)) (by simp[V.al,V.aw,pH,AM.aN (f:=V.int .u32) (fun _=>rfl)]) (vals:=[.slice a0 LD LF])
  (fun φ=>by
    simp only[ag]
    exact⟨Ni _ _ _ (g03 φ),trivial⟩)).mono fun e W' ⟨he,hb,hz⟩=> ?_
 subst he
 refine⟨_,rfl,sA (pa:=p0++([])) (pv:=[]) zg (fun _ _ _=> (trodAll_cons_mk (shut_bool Tryz.underlying4 _) trodAll_mk0))
  (fun sp vD=> (trodAll_cons_mk (WideElems.Trod_stays rG aiQ (of_decide_eq_true aiQ) h0k (fun x hx=>hb.same (LG x hx)) (fun x hx=>vD x (by simp[hx])))
    trodAll_mk0)) (fun _ _=>rfl) abW
  (pI hb _) hz (ok_one aiQ rfl (okWide_bool_mk Tryz.underlying4 _))⟩
set_option maxRecDepth 100000 in
theorem Pz (os:Os) (started:os.Started) (H:Type) (enc:TypeId×Value→H):
  ReturnsInHanded {} Tryz.checked os 5 .any (Rows.labelLongestSpec.pre6 enc Tryz.prog Tryz.f5 Rows.labelLongestRow.domain false) (Rows.labelLongestSpec.post enc Tryz.prog Tryz.f5 false true false false):=by
 refine returnsInHanded_of_change (C:=Tryz.checked) M4 started aiQ Tryz.func5
  (ChangeSpec.witness6 (enc:=enc) (C:=Tryz.checked) false ⟨#[],#[.slice none 0 0],[]⟩ 8 aiQ aiQ aiQ aiQ) ?_
 intro W base args ds gs before jF hW _ _
 exact I9 H enc W base args ds gs before jF hW
theorem Uc:joinedFacts Tryz.prog 5 Tryz.f5 Rows.labelLongestSpec Rows.labelLongestRow=true:=by
 unfold joinedFacts
 simp only[Bool.and_eq_true]
 and_intros<;>decide+kernel
theorem Ud:Tryz.prog.funcNamed Rows.labelLongestRow.func=some 5:=aiQ
theorem WO:Rows.labelLongestRow.holds Tryz.pinned (OpenSpec.ofChange Rows.labelLongestSpec):=
 OpenClaim.holds_of_wide 5 Tryz.f5 rfl rfl rfl rfl rfl rfl rfl ⟨rfl,rfl,rfl,rfl,rfl⟩ rfl rfl rfl rfl rfl Ud Tryz.func5 Uc
  (of_decide_eq_true aiQ) (by unfold Func.isWrapper;first| (rw[if_pos (by decide+kernel)];kernel_rfl) | (rw[if_neg (by decide+kernel)];exact⟨rfl,rfl⟩))
  (fun os started H enc _=>Pz os started H enc)
end Go.AM
namespace Go.Proofs.YtdldmebldkgcnaaGreat
theorem labelLongest_holds:Rows.LabelLongestSaid:=Go.AM.WO
#print axioms labelLongest_holds
end Go.Proofs.YtdldmebldkgcnaaGreat
