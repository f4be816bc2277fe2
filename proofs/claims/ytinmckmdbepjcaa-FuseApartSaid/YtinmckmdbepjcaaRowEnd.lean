/-
  hachurelaw13.FuseApart: whatever the numbers: it returns true; the numbers read as before. Conditions: none. Own work.
-/
import Derived.Test.YtinmckmdbepjcaaSeat
import Derived.Test.YtinmckmdbepjcaaTe
import Derived.Test.YtinmckmdbepjcaaOpsC
import Derived.WalkKit
import Derived.ProofKit
import Derived.OpenShut
import Derived.JoinedCond
import Derived.Carry
set_option linter.unusedSimpArgs false
set_option linter.unusedVariables false
namespace Go.AM
open Go.ChangeShapes Go.WideShapes Go.ChangeAt Go.RowKit Go.Proofs Go.Proofs.Ytinmckmdbepjcaa
theorem Bk {W W':World} (h:Below W.heap.size W W') (may:MemPlace→Prop):W.keptBut W' may:=by
 have:=(World.keptBut_refl W may).2.2
 refine⟨h.os,h.output,fun i hi=> ?_⟩
 rw[h.block i hi]
 exact this i hi
theorem QL:ownKnob Try.prog.godebug=none:=by kernel_rfl
def VN:List TypeId:=[22,31,5,3]
theorem xM:VN.all (xH X0.P VN)=true:=by kernel_rfl
theorem Bl:laidOutB Try.prog=true:=by kernel_rfl
theorem r8 {n:Nat} {us:List V} (h:TV X0.P n 3 us): ∃x:Int,us=[vi x]:=by
 have u3:X0.P.underlying 3=_:=Try.underlying3
 cases n with
 | zero=>simp[TV] at h
 | succ n=>
   simp only[TV,u3] at h
   obtain⟨x,rfl,hw⟩:=h
   exact⟨x,rfl⟩
theorem c3:X0.P.cellsOf 3=1:=by kernel_rfl
theorem Cj {X:Ctx} {μ:Mu} {sz:Nat} {v:Value} (h:al X μ .nils v):al X μ (.lit sz []) v:=by
 simp only[al] at h ⊢
 obtain⟨a,rfl⟩:=h
 exact⟨rfl,rfl,a,0,[],rfl,Nat.le_refl _,by simp[ak],.inl trivial⟩
theorem Ii {n:Nat} {us:List V} (h:TV X0.P n 31 us): ∃l:List Int,l.length≤maxLen∧(us=[.nils]∧l=[]∨us=[eV l]):=by
 have QM:X0.P.underlying 31=_:=Try.underlying31
 have u3:X0.P.underlying 3=_:=Try.underlying3
 cases n with
 | zero=>simp[TV] at h
 | succ n=>
   simp only[TV,QM,c3] at h
   rcases h with rfl| ⟨xs,rfl,C7,hx⟩
   · exact⟨[],by simp,.inl ⟨rfl,rfl⟩⟩
   · have: ∃l:List Int,xs=l.map vi:=by
      clear QM C7
      induction xs with
      | nil=>exact⟨[],rfl⟩
      | cons x xs ih=>
        obtain⟨l,hl⟩:=ih (fun y hy=>hx y (by simp[hy]))
        obtain⟨ws,h1,h2⟩:=hx x (by simp)
        obtain⟨p,rfl⟩:=r8 h1
        exact⟨p::l,by simp[hl,h2,s6,u3]⟩
     obtain⟨l,rfl⟩:=this
     exact⟨l,by simpa using C7,.inr rfl⟩
theorem Gs {  n:Nat} {us:List V} (h:TV X0.P n 22 us): ∃ls:List (List Int),ls.length≤maxLen∧(∀l ∈ ls,l.length≤maxLen)∧
   ∀ (X:Ctx) (μ:Mu) (v:Value),ak X μ us [v]→al X μ (fU ls) v:=by
 have VO:X0.P.underlying 22=_:=Try.underlying22
 have QM:X0.P.underlying 31=_:=Try.underlying31
 have XJ:X0.P.cellsOf 31=1:=by kernel_rfl
 cases n with
 | zero=>simp[TV] at h
 | succ n=>
   simp only[TV,VO,XJ] at h
   rcases h with rfl| ⟨xs,rfl,C7,hx⟩
   · exact⟨[],by simp,by simp,fun X μ v hv=>by
       simp only[ak] at hv
       exact Cj hv.1⟩
   · have: ∃ls:List (List Int),ls.length=xs.length∧(∀l ∈ ls,l.length≤maxLen)∧V.aq xs=true∧xs.all V.dh=true∧
         ∀ (X:Ctx) (μ:Mu) (vs:List Value),ak X μ xs vs→ak X μ (ls.map eV) vs:=by
       clear VO C7
       induction xs with
       | nil=>exact⟨[],rfl,by simp,rfl,rfl,fun X μ vs h=>h⟩
       | cons x xs ih=>
         obtain⟨ls,e1,e2,e3,e4,e5⟩:=ih (fun y hy=>hx y (by simp[hy]))
         obtain⟨ws,h1,h2⟩:=hx x (by simp)
         obtain⟨l,k1,k2⟩:=Ii h1
         have sA:x= .nils∧l=[]∨x=eV l:=by
           rcases k2 with⟨rfl,rfl⟩ | rfl
           · exact .inl ⟨by simp[h2,s6,QM],rfl⟩
           · exact .inr (by simp[h2,s6,QM])
         refine⟨l::ls,by simp[e1],fun y hy=> ?_,?_,?_,fun X μ vs hv=> ?_⟩
         · rcases List.mem_cons.1 hy with rfl| hy
           · exact k1
           · exact e2 y hy
         · rcases sA with⟨rfl,_⟩ | rfl
           · simpa [V.aq,V.aE] using e3
           · simpa [V.aq,V.aE,eV] using e3
         · rcases sA with⟨rfl,_⟩ | rfl
           · simpa [V.dh,V.aN] using e4
           · simpa [V.dh,V.aN,eV] using e4
         · cases vs with
           | nil=>simp[ak] at hv
           | cons v vs=>
             simp only[ak,List.map_cons] at hv ⊢
             refine⟨?_,e5 X μ vs hv.2⟩
             rcases sA with⟨rfl,rfl⟩ | rfl
             · exact Cj hv.1
             · exact hv.1
     obtain⟨ls,e1,e2,e3,e4,e5⟩:=this
     refine⟨ls,by omega,e2,fun X μ v hv=> ?_⟩
     simp only[ak,al] at hv
     obtain⟨⟨h1,h2,a,cap,vs,rfl,h3,h4,h5⟩,_⟩:=hv
     simp only[fU,al,List.length_map]
     refine⟨AM.cN (fun _=>rfl) _,by simp[List.all_eq_true,V.dh,V.aN,eV],a,cap,vs,by rw[e1],by omega,e5 X μ vs h4,?_⟩
     rcases h5 with h5| h5
     · left
       have:ls=[]:=by
         have:ls.length=0:=by rw[e1,h5];rfl
         simpa using this
       rw[this];rfl
     · exact .inr h5
theorem abe {n:Nat} {us:List V} {X:Ctx} {μ:Mu} {t:Int} (hr:ak X μ us [.int .u8 t]) (h:TV X0.P n 5 us):us=[.int .u8 t]∧0≤t∧t≤255:=by
 have YJ:X0.P.underlying 5=_:=Try.underlying5
 cases n with
 | zero=>simp[TV] at h
 | succ n=>
   simp only[TV,YJ] at h
   obtain⟨x,rfl,hw⟩:=h
   simp only[ak,al] at hr
   obtain⟨hr,_⟩:=hr
   injection hr with _ hr
   subst hr
   simp only[Lit.wf,Bool.and_eq_true,decide_eq_true_eq,IntKind.min,IntKind.max,IntKind.signed,IntKind.bits] at hw
   exact⟨rfl,by simpa using hw.1,by have:=hw.2;simp at this;omega⟩
set_option maxRecDepth 100000 in
theorem vJ (H:Type) (enc:TypeId×Value→H) (W:World) (base:Nat) (args:Array Value) (ds gs:List (DataW H)) (before:List MemPlace)
  (xG: ∀ (j:Nat) t v,Try.f3.params[j]? =some t→args[j]? =some v→Value.okWide Try.prog W .any base t v)
  (hW:DataW.Whole enc Try.prog Try.f3.params.toList Rows.fuseApartSpec.vars false W args.toList ds gs before):
  Calls Try.prog 3 args W fun e W'=> ∃v,e= .returned v∧Rows.fuseApartSpec.post enc Try.prog Try.f3 false true false false W args v W':=by
 have QN:=hW
 obtain⟨p,q,VP,hV,rfl,gK,GJ⟩:=hW
 have hA:DataW.TrodAll enc Try.prog W 0 (fun _=>true) true Try.f3.params.toList args.toList ds p:=VP
 rw[Try.params3] at hA xG
 obtain⟨v0,Yk,d0,Yl,p0,q0,jN,rfl,rfl,h0,r0⟩:=trodAll_cons hA
 obtain⟨v1,Xk,d1,Ym,p1,q1,rfl,rfl,rfl,h1,r1⟩:=trodAll_cons r0
 obtain⟨v2,V2,d2,Yn,p2,q2,rfl,rfl,rfl,h2,r2⟩:=trodAll_cons r1
 obtain⟨rfl,rfl,rfl⟩:=trodAll_nil r2
 obtain rfl:args= #[v0,v1,v2]:=by cases args;simp_all
 obtain⟨rfl,rfl⟩:=trodVars_none hV
 clear VP
 have XK:=QN
 simp only[List.append_nil] at QN
 obtain⟨a,len,cap,rfl⟩:=okWide_slice Try.underlying22 (xG 0 22 v0 rfl rfl)
 obtain⟨t,rfl⟩:=okWide_int Try.underlying5 (xG 1 5 v1 rfl rfl)
 obtain⟨y,rfl⟩:=okWide_int Try.underlying3 (xG 2 3 v2 rfl rfl)
 have XL:=h0;have XM:=h1;have XN:=h2
 obtain⟨zo,XO⟩:=h0
 obtain⟨Yo,XP,Yp,Yq,XQ⟩:=trod_good (X:=X0) xM zo 22 _ _ (by decide) XO
 obtain⟨ls,U1,C9,MI⟩:=Gs XP
 obtain⟨QO,Se⟩:=h1
 obtain⟨Yr,MJ,dK,fJ,XR⟩:=trod_good (X:=X0) xM QO 5 _ _ (by decide) Se
 obtain⟨rfl,ht0,HD⟩:=abe (XR fun _=> ⟨0,0,0⟩) MJ
 obtain⟨QP,Ay⟩:=h2
 obtain⟨Ys,XS,Yt,Yu,XT⟩:=trod_good (X:=X0) xM QP 3 _ _ (by decide) Ay
 obtain⟨z,rfl⟩:=r8 XS
 have Uu: ∀x ∈ p0,x.block<W.heap.size:=fun x hx=>QN.lt x (by simp[hx])
 have Uv: ∀x ∈ p1,x.block<W.heap.size:=fun x hx=>QN.lt x (by simp[hx])
 have fS: ∀x ∈ p2,x.block<W.heap.size:=fun x hx=>QN.lt x (by simp[hx])
 have Mz:wa ls:=by
  have hm:maxLen< 9223372036854775808:=by decide
  exact⟨by omega,fun l hl=>by have:=C9 l hl;omega⟩
 refine(DV (F:=3) QQ rfl Try.func3 (by kernel_rfl) rfl (ZR (n:=z) Mz ht0 (by omega)) (by simp[V.aq,V.aE,fU,AM.cN (f:=eV) (fun _=>rfl)]) (vals:=[.slice a len cap,.int .u8 t,.int .i64 y])
  (fun φ=>by
    simp only[ak]
    refine⟨MI _ _ _ (XQ φ),?_,?_,trivial⟩
    · have h:=XR φ
      have e1: (Value.int IntKind.u8 t).cells.toList=[Value.int IntKind.u8 t]:=rfl
      rw[e1] at h
      exact h.1
    · have h:=XT φ
      have e1: (Value.int IntKind.i64 y).cells.toList=[Value.int IntKind.i64 y]:=rfl
      rw[e1] at h
      exact h.1)).mono fun e W' ⟨he,hb,hz⟩=> ?_
 subst he
 refine⟨_,rfl,DU (pa:=p0++(p1++(p2++[]))) (pv:=[]) XK (fun _ _ _=> (trodAll_cons_mk (shut_bool Try.underlying4 _) trodAll_mk0))
  (fun sp uq=> (trodAll_cons_mk (WideElems.Trod_stays Bl (by kernel_rfl) (of_decide_eq_true (by kernel_rfl)) XL (fun x hx=>hb.same (Uu x hx)) (fun x hx=>uq x (by simp[hx])))
    (trodAll_cons_mk (WideElems.Trod_stays Bl (by kernel_rfl) (of_decide_eq_true (by kernel_rfl)) XM (fun x hx=>hb.same (Uv x hx)) (fun x hx=>uq x (by simp[hx])))
    (trodAll_cons_mk (WideElems.Trod_stays Bl (by kernel_rfl) (of_decide_eq_true (by kernel_rfl)) XN (fun x hx=>hb.same (fS x hx)) (fun x hx=>uq x (by simp[hx]))) trodAll_mk0)))) (fun _ _=>rfl) (by simp)
  (Bk hb _) hz (ok_one (by kernel_rfl) rfl (okWide_bool_mk Try.underlying4 _))⟩
set_option maxRecDepth 100000 in
theorem zH (os:Os) (started:os.Started) (H:Type) (enc:TypeId×Value→H):
  ReturnsInHanded {} Try.checked os 3 .any (Rows.fuseApartSpec.pre6 enc Try.prog Try.f3 Rows.fuseApartRow.domain false) (Rows.fuseApartSpec.post enc Try.prog Try.f3 false true false false):=by
 refine returnsInHanded_of_change (C:=Try.checked) QL started (by kernel_rfl) Try.func3
  (ChangeSpec.witness6 (enc:=enc) (C:=Try.checked) false ⟨#[],#[.slice none 0 0,.int .u8 0,.int .i64 0],[]⟩ 8 (by kernel_rfl) (by kernel_rfl) (by kernel_rfl) (by kernel_rfl)) ?_
 intro W base args ds gs before xG hW _ _
 exact vJ H enc W base args ds gs before xG hW
theorem D2:Rows.fuseApartRow.holds Try.pinned (OpenSpec.ofChange Rows.fuseApartSpec):=
 OpenClaim.holds_of_wide 3 Try.f3 rfl rfl rfl rfl rfl rfl rfl ⟨rfl,rfl,rfl,rfl,rfl⟩ rfl rfl rfl rfl rfl (by kernel_rfl) Try.func3 (by kernel_rfl)
  (of_decide_eq_true (by kernel_rfl)) (by unfold Func.isWrapper;first| (rw[if_pos (by decide+kernel)];kernel_rfl) | (rw[if_neg (by decide+kernel)];exact⟨rfl,rfl⟩))
  (fun os started H enc _=>zH os started H enc)
end Go.AM
namespace Go.Proofs.Ytinmckmdbepjcaa
theorem fuseApart_holds:Rows.FuseApartSaid:=Go.AM.D2
#print axioms fuseApart_holds
end Go.Proofs.Ytinmckmdbepjcaa
