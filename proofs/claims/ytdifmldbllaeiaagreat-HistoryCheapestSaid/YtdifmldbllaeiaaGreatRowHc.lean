/- hachurelaw17.HistoryCheapest: whatever the numbers: it returns true; the argument reads behind the call what it read before. Conditions: none. Own work. -/
import Derived.Test.YtdifmldbllaeiaaGreatRw
import Derived.Test.YtdifmldbllaeiaaGreatLy
set_option maxHeartbeats 4000000
set_option linter.unusedSimpArgs false
set_option linter.unusedVariables false
namespace Go.AM
open Go.ChangeShapes Go.WideShapes Go.ChangeAt Go.RowKit Go.Proofs Go.Proofs.YtdifmldbllaeiaaGreat
set_option maxRecDepth 100000 in
theorem GG (H:Type) (enc:TypeId×Value→H) (W:World) (base:Nat) (args:Array Value) (ds gs:List (DataW H)) (before:List MemPlace)
  (DK: ∀ (j:Nat) t v,Tryz.f5.params[j]? =some t→args[j]? =some v→Value.okWide Tryz.prog W .any base t v)
  (hW:DataW.Whole enc Tryz.prog Tryz.f5.params.toList Rows.historyCheapestSpec.vars false W args.toList ds gs before):
  Calls Tryz.prog 5 args W fun e W'=> ∃v,e= .returned v∧Rows.historyCheapestSpec.post enc Tryz.prog Tryz.f5 false true false false W args v W':=by
 have hW':=hW
 obtain⟨p,q,hA0,hV,rfl,gu,Rj⟩:=hW
 have hA:DataW.TrodAll enc Tryz.prog W 0 (fun _=>true) true Tryz.f5.params.toList args.toList ds p:=hA0
 rw[Tryz.params5] at hA DK
 obtain⟨v0,vs0,d0,ds0,p0,q0,j6,rfl,rfl,h0,r0⟩:=trodAll_cons hA
 obtain⟨rfl,rfl,rfl⟩:=trodAll_nil r0
 obtain rfl:args= #[v0]:=by cases args;simp_all
 obtain⟨rfl,rfl⟩:=trodVars_none hV
 clear hA0
 have DQ:=hW'
 simp only[agJ] at hW'
 obtain⟨a0,afg,afh,rfl⟩:=okWide_slice Tryz.underlying22 (DK 0 22 v0 rfl rfl)
 have h0k:=h0
 obtain⟨Gu,hf0⟩:=h0
 obtain⟨us0,g00,g01,g02,g03⟩:=trod_good (X:=X0) Tz Gu 22 _ _ afV hf0
 obtain⟨ls,T9,GP,U2⟩:=QF g00
 have afi: ∀x ∈ p0,x.block<W.heap.size:=fun x hx=>hW'.lt x (by simp[hx])
 have hm:maxLen< 9223372036854775808:=afV
 refine(Ml (F:=5) abm rfl Tryz.func5 afW rfl (Fx FI (QG T9 GP)) (by simp[V.ak,V.au,IZ]) (vals:=[.slice a0 afg afh])
  (fun φ=>by
    simp only[ag]
    exact⟨U2 _ _ _ (g03 φ),trivial⟩)).mono fun e W' ⟨he,hb,hz⟩=> ?_
 subst he
 refine⟨_,rfl,Mk (pa:=p0++([])) (pv:=[]) DQ (fun _ _ _=> (trodAll_cons_mk (shut_bool Tryz.underlying4 _) trodAll_mk0))
  (fun sp C5=> (trodAll_cons_mk (WideElems.Trod_stays WW afW (of_decide_eq_true afW) h0k (fun x hx=>hb.same (afi x hx)) (fun x hx=>C5 x (by simp[hx])))
    trodAll_mk0)) (fun _ _=>rfl) afU
  (I0 hb _) hz (ok_one afW rfl (okWide_bool_mk Tryz.underlying4 _))⟩
set_option maxRecDepth 100000 in
theorem Mm (os:Os) (started:os.Started) (H:Type) (enc:TypeId×Value→H):
  ReturnsInHanded {} Tryz.checked os 5 .any (Rows.historyCheapestSpec.pre6 enc Tryz.prog Tryz.f5 Rows.historyCheapestRow.domain false) (Rows.historyCheapestSpec.post enc Tryz.prog Tryz.f5 false true false false):=by
 refine returnsInHanded_of_change (C:=Tryz.checked) abn started afW Tryz.func5
  (ChangeSpec.witness6 (enc:=enc) (C:=Tryz.checked) false ⟨#[],#[.slice none 0 0],[]⟩ 8 afW afW afW afW) ?_
 intro W base args ds gs before DK hW _ _
 exact GG H enc W base args ds gs before DK hW
theorem QH:joinedFacts Tryz.prog 5 Tryz.f5 Rows.historyCheapestSpec Rows.historyCheapestRow=true:=by
 unfold joinedFacts
 simp only[af2]
 and_intros<;>decide+kernel
theorem QI:Tryz.prog.funcNamed Rows.historyCheapestRow.func=some 5:=afW
theorem TA:Rows.historyCheapestRow.holds Tryz.pinned (OpenSpec.ofChange Rows.historyCheapestSpec):=
 OpenClaim.holds_of_wide 5 Tryz.f5 rfl rfl rfl rfl rfl rfl rfl ⟨rfl,rfl,rfl,rfl,rfl⟩ rfl rfl rfl rfl rfl QI Tryz.func5 QH
  (of_decide_eq_true afW) (by unfold Func.isWrapper;first| (rw[if_pos (by decide+kernel)];kernel_rfl) | (rw[if_neg (by decide+kernel)];exact⟨rfl,rfl⟩))
  (fun os started H enc _=>Mm os started H enc)
end Go.AM
namespace Go.Proofs.YtdifmldbllaeiaaGreat
theorem historyCheapest_holds:Rows.HistoryCheapestSaid:=Go.AM.TA
#print axioms historyCheapest_holds
end Go.Proofs.YtdifmldbllaeiaaGreat
