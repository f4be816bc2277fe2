/-
  hachurelaw23.LabelCalm: whatever the numbers and the two squares: it returns true; the arguments read behind the call what they read before. Conditions: none. Own work.
-/
import Derived.Test.YtdldmebldkgcnaaGreatRw
import Derived.Test.YtdldmebldkgcnaaGreatGak
set_option maxHeartbeats 4000000
set_option linter.unusedSimpArgs false
set_option linter.unusedVariables false
namespace Go.AM
open Go.ChangeShapes Go.WideShapes Go.ChangeAt Go.RowKit Go.Proofs Go.Proofs.YtdldmebldkgcnaaGreat
set_option maxRecDepth 100000 in
theorem I8 (H:Type) (enc:TypeId×Value→H) (W:World) (base:Nat) (args:Array Value) (ds gs:List (DataW H)) (before:List MemPlace)
  (jF: ∀ (j:Nat) t v,Tryz.f4.params[j]? =some t→args[j]? =some v→Value.okWide Tryz.prog W .any base t v)
  (hW:DataW.Whole enc Tryz.prog Tryz.f4.params.toList Rows.labelCalmSpec.vars false W args.toList ds gs before):
  Calls Tryz.prog 4 args W fun e W'=> ∃v,e= .returned v∧Rows.labelCalmSpec.post enc Tryz.prog Tryz.f4 false true false false W args v W':=by
 have F9:=hW
 obtain⟨p,q,T6,hV,rfl,gz,Pl⟩:=hW
 have hA:DataW.TrodAll enc Tryz.prog W 0 (fun _=>true) true Tryz.f4.params.toList args.toList ds p:=T6
 rw[Tryz.params4] at hA jF
 obtain⟨v0,vs0,d0,ds0,p0,q0,jb,rfl,rfl,h0,r0⟩:=trodAll_cons hA
 obtain⟨v1,vs1,d1,ds1,p1,q1,rfl,rfl,rfl,h1,r1⟩:=trodAll_cons r0
 obtain⟨v2,vs2,d2,ds2,p2,q2,rfl,rfl,rfl,h2,r2⟩:=trodAll_cons r1
 obtain⟨rfl,rfl,rfl⟩:=trodAll_nil r2
 obtain rfl:args= #[v0,v1,v2]:=by cases args;simp_all
 obtain⟨rfl,rfl⟩:=trodVars_none hV
 clear T6
 have zg:=F9
 simp only[ajq] at F9
 obtain⟨a0,LD,LF,rfl⟩:=okWide_slice Tryz.underlying22 (jF 0 22 v0 rfl rfl)
 obtain⟨t1,rfl⟩:=okWide_int Tryz.underlying36 (jF 1 36 v1 rfl rfl)
 obtain⟨t2,rfl⟩:=okWide_int Tryz.underlying36 (jF 2 36 v2 rfl rfl)
 have h0k:=h0;have h1k:=h1;have h2k:=h2
 obtain⟨rp,hf0⟩:=h0
 obtain⟨us0,g00,g01,g02,g03⟩:=trod_good (X:=X0) nH rp 22 _ _ aiO hf0
 obtain⟨ls,Fb,Cj,Ni⟩:=wy g00
 obtain⟨I7,XY⟩:=h1
 obtain⟨us1,g10,g11,g12,g13⟩:=trod_good (X:=X0) nH I7 36 _ _ aiO XY
 obtain⟨rfl,aao,aap⟩:=LH (X:=free X0) (μ:=still W fun _=> ⟨0,0,0⟩) (T:=36) Tryz.underlying36 (g13 fun _=> ⟨0,0,0⟩) g10
 obtain⟨ad1,Km⟩:=h2
 obtain⟨us2,g20,g21,g22,g23⟩:=trod_good (X:=X0) nH ad1 36 _ _ aiO Km
 obtain⟨rfl,ah5,ah6⟩:=LH (X:=free X0) (μ:=still W fun _=> ⟨0,0,0⟩) (T:=36) Tryz.underlying36 (g23 fun _=> ⟨0,0,0⟩) g20
 have LG: ∀x ∈ p0,x.block<W.heap.size:=fun x hx=>F9.lt x (by simp[hx])
 have T7: ∀x ∈ p1,x.block<W.heap.size:=fun x hx=>F9.lt x (by simp[hx])
 have jU: ∀x ∈ p2,x.block<W.heap.size:=fun x hx=>F9.lt x (by simp[hx])
 have hm:maxLen< 9223372036854775808:=aiO
 refine(sB (F:=4) M3 rfl Tryz.func4 aiQ rfl (KI (wz Fb Cj) (by simpa [IntKind.min,IntKind.signed,IntKind.bits] using aao) (by have:=aap;simp[IntKind.max,IntKind.signed,IntKind.bits] at this;omega) (by simpa [IntKind.min,IntKind.signed,IntKind.bits] using ah5) (by have:=ah6;simp[IntKind.max,IntKind.signed,IntKind.bits] at this;omega)) (by simp[V.al,V.aw,pH,AM.aN (f:=V.int .u32) (fun _=>rfl)]) (vals:=[.slice a0 LD LF,.int .u32 t1,.int .u32 t2])
  (fun φ=>by
    simp only[ag]
    exact⟨Ni _ _ _ (g03 φ),(by
     have h:=g13 φ
     have e1: (Value.int .u32 t1).cells.toList=[Value.int .u32 t1]:=rfl
     rw[e1] at h
     exact h.1),(by
     have h:=g23 φ
     have e1: (Value.int .u32 t2).cells.toList=[Value.int .u32 t2]:=rfl
     rw[e1] at h
     exact h.1),trivial⟩)).mono fun e W' ⟨he,hb,hz⟩=> ?_
 subst he
 refine⟨_,rfl,sA (pa:=p0++(p1++(p2++([])))) (pv:=[]) zg (fun _ _ _=> (trodAll_cons_mk (shut_bool Tryz.underlying4 _) trodAll_mk0))
  (fun sp vD=> (trodAll_cons_mk (WideElems.Trod_stays rG aiQ (of_decide_eq_true aiQ) h0k (fun x hx=>hb.same (LG x hx)) (fun x hx=>vD x (by simp[hx])))
    (trodAll_cons_mk (WideElems.Trod_stays rG aiQ (of_decide_eq_true aiQ) h1k (fun x hx=>hb.same (T7 x hx)) (fun x hx=>vD x (by simp[hx])))
    (trodAll_cons_mk (WideElems.Trod_stays rG aiQ (of_decide_eq_true aiQ) h2k (fun x hx=>hb.same (jU x hx)) (fun x hx=>vD x (by simp[hx])))
    trodAll_mk0)))) (fun _ _=>rfl) abW
  (pI hb _) hz (ok_one aiQ rfl (okWide_bool_mk Tryz.underlying4 _))⟩
set_option maxRecDepth 100000 in
theorem Py (os:Os) (started:os.Started) (H:Type) (enc:TypeId×Value→H):
  ReturnsInHanded {} Tryz.checked os 4 .any (Rows.labelCalmSpec.pre6 enc Tryz.prog Tryz.f4 Rows.labelCalmRow.domain false) (Rows.labelCalmSpec.post enc Tryz.prog Tryz.f4 false true false false):=by
 refine returnsInHanded_of_change (C:=Tryz.checked) M4 started aiQ Tryz.func4
  (ChangeSpec.witness6 (enc:=enc) (C:=Tryz.checked) false ⟨#[],#[.slice none 0 0,.int .u32 0,.int .u32 0],[]⟩ 8 aiQ aiQ aiQ aiQ) ?_
 intro W base args ds gs before jF hW _ _
 exact I8 H enc W base args ds gs before jF hW
theorem Ua:joinedFacts Tryz.prog 4 Tryz.f4 Rows.labelCalmSpec Rows.labelCalmRow=true:=by
 unfold joinedFacts
 simp only[Bool.and_eq_true]
 and_intros<;>decide+kernel
theorem Ub:Tryz.prog.funcNamed Rows.labelCalmRow.func=some 4:=aiQ
theorem WN:Rows.labelCalmRow.holds Tryz.pinned (OpenSpec.ofChange Rows.labelCalmSpec):=
 OpenClaim.holds_of_wide 4 Tryz.f4 rfl rfl rfl rfl rfl rfl rfl ⟨rfl,rfl,rfl,rfl,rfl⟩ rfl rfl rfl rfl rfl Ub Tryz.func4 Ua
  (of_decide_eq_true aiQ) (by unfold Func.isWrapper;first| (rw[if_pos (by decide+kernel)];kernel_rfl) | (rw[if_neg (by decide+kernel)];exact⟨rfl,rfl⟩))
  (fun os started H enc _=>Py os started H enc)
end Go.AM
namespace Go.Proofs.YtdldmebldkgcnaaGreat
theorem labelCalm_holds:Rows.LabelCalmSaid:=Go.AM.WN
#print axioms labelCalm_holds
end Go.Proofs.YtdldmebldkgcnaaGreat
