/- hachurelaw17.HistoryNames: whatever the numbers and the square: it returns true; the arguments read asq before. Conditions: none. Own work, printed by mkrowhn.py. -/
import Derived.Test.YtdifmldbllaeiaaGreatRw
import Derived.Test.YtdifmldbllaeiaaGreatLy
set_option maxHeartbeats 4000000
set_option linter.unusedSimpArgs false
set_option linter.unusedVariables false
namespace Go.AM
open Go.ChangeShapes Go.WideShapes Go.ChangeAt Go.RowKit Go.Proofs Go.Proofs.YtdifmldbllaeiaaGreat
set_option maxRecDepth 100000 in
theorem JC (H:Type) (enc:TypeId×Value->H) (W:World) (base:Nat) (args:Array Value) (y gs:List (DataW H)) (before:List MemPlace)
  (Dx: ∀ (j:Nat) t v,Tryz.f3.params[j]? =some t->args[j]? =some v->Value.okWide Tryz.prog W .any base t v)
  (z:DataW.Whole enc Tryz.prog Tryz.f3.params.toList Rows.historyNamesSpec.vars false W args.toList y gs before):
  Calls Tryz.prog 3 args W fun e W'=> ∃v,e= .returned v/\Rows.historyNamesSpec.post enc Tryz.prog Tryz.f3 false true false false W args v W':=by
 have a:=z;obtain⟨p,q,b,D,rfl,iC,kc⟩:=z;have hA:DataW.TrodAll enc Tryz.prog W 0 (fun _=>true) true Tryz.f3.params.toList args.toList y p:=b;rw[Tryz.params3] at hA Dx;obtain⟨v0,E,d0,G,A,S,U,rfl,rfl,h0,r0⟩:=trodAll_cons hA;obtain⟨B,I,d1,J,C,Y,rfl,rfl,rfl,h1,r1⟩:=trodAll_cons r0;obtain⟨rfl,rfl,rfl⟩:=trodAll_nil r1;obtain rfl:args= #[v0,B]:=by cases args;simp_all
 obtain⟨rfl,rfl⟩:=trodVars_none D;clear b;have GR:=a;simp only[akY] at a;obtain⟨a0,d,f,rfl⟩:=okWide_slice Tryz.underlying22 (Dx 0 22 v0 rfl rfl);obtain⟨t1,rfl⟩:=okWide_int Tryz.underlying23 (Dx 1 23 B rfl rfl);have g:=h0;have i:=h1;obtain⟨Jr,k⟩:=h0;obtain⟨K,l,L,M,m⟩:=trod_good (X:=X0) Nz Jr 22 _ _ ajm k;obtain⟨Z,X4,JQ,YT⟩:=UC l;obtain⟨n,o⟩:=h1;obtain⟨N,g10,O,P,c⟩:=trod_good (X:=X0) Nz n 23 _ _ ajm o;obtain⟨rfl,r,s⟩:=aaL (X:=free X0) (μ:=still W fun _=> ⟨0,0,0⟩) (T:=23) Tryz.underlying23 (c fun _=> ⟨0,0,0⟩) g10;have u: ∀x ∈ A,x.block<W.heap.size:=fun x hx=>a.lt x (by simp[hx]);have w: ∀x ∈ C,x.block<W.heap.size:=fun x hx=>a.lt x (by simp[hx]);have hm:maxLen< 9223372036854775808:=ajm;refine(PQ (F:=3) aeN rfl Tryz.func3 ajn rfl (Tp YI (UD X4 JQ) (by simpa [IntKind.min,IntKind.signed,IntKind.bits] using r) (by have:=s;simp[IntKind.max,IntKind.signed,IntKind.bits] at this;omega)) (by simp[V.al,V.az,L7]) (vals:=[.slice a0 d f,.int .u32 t1])
  (fun φ=>by
    simp only[ag];exact⟨YT _ _ _ (m φ),(by
     have h:=c φ;have Q: (Value.int .u32 t1).cells.toList=[Value.int .u32 t1]:=rfl;rw[Q] at h;exact h.1),trivial⟩)).mono fun e W' ⟨he,hb,R⟩=> ?_
 subst he;refine⟨_,rfl,PO (pa:=A++(C++([]))) (pv:=[]) GR (fun _ _ _=> (trodAll_cons_mk (shut_bool Tryz.underlying4 _) trodAll_mk0))
  (fun sp Ep=> (trodAll_cons_mk (WideElems.Trod_stays UE ajn (of_decide_eq_true ajn) g (fun x hx=>hb.same (u x hx)) (fun x hx=>Ep x (by simp[hx])))
    (trodAll_cons_mk (WideElems.Trod_stays UE ajn (of_decide_eq_true ajn) i (fun x hx=>hb.same (w x hx)) (fun x hx=>Ep x (by simp[hx])))
    trodAll_mk0))) (fun _ _=>rfl) ajl
  (L8 hb _) R (ok_one ajn rfl (okWide_bool_mk Tryz.underlying4 _))⟩
set_option maxRecDepth 100000 in
theorem PR (os:Os) (started:os.Started) (H:Type) (enc:TypeId×Value->H):
  ReturnsInHanded {} Tryz.checked os 3 .any (Rows.historyNamesSpec.pre6 enc Tryz.prog Tryz.f3 Rows.historyNamesRow.domain false) (Rows.historyNamesSpec.post enc Tryz.prog Tryz.f3 false true false false):=by
 refine returnsInHanded_of_change (C:=Tryz.checked) aeO started ajn Tryz.func3
  (ChangeSpec.witness6 (enc:=enc) (C:=Tryz.checked) false ⟨#[],#[.slice none 0 0,.int .u32 0],[]⟩ 8 ajn ajn ajn ajn) ?_
 intro W base args a b before Dx c _ _;exact JC H enc W base args a b before Dx c
theorem UG:joinedFacts Tryz.prog 3 Tryz.f3 Rows.historyNamesSpec Rows.historyNamesRow=true:=by
 unfold joinedFacts;simp only[ajt]
 and_intros<;>decide+kernel
theorem UH:Tryz.prog.funcNamed Rows.historyNamesRow.func=some 3:=ajn
theorem XE:Rows.historyNamesRow.holds Tryz.pinned (OpenSpec.ofChange Rows.historyNamesSpec):=
 OpenClaim.holds_of_wide 3 Tryz.f3 rfl rfl rfl rfl rfl rfl rfl ⟨rfl,rfl,rfl,rfl,rfl⟩ rfl rfl rfl rfl rfl UH Tryz.func3 UG
  (of_decide_eq_true ajn) (by unfold Func.isWrapper;first| (rw[if_pos (by decide+kernel)];kernel_rfl) | (rw[if_neg (by decide+kernel)];exact⟨rfl,rfl⟩))
  (fun os started H enc _=>PR os started H enc)
end Go.AM
namespace Go.Proofs.YtdifmldbllaeiaaGreat
theorem historyNames_holds:Rows.HistoryNamesSaid:=Go.AM.XE
#print axioms historyNames_holds
end Go.Proofs.YtdifmldbllaeiaaGreat
