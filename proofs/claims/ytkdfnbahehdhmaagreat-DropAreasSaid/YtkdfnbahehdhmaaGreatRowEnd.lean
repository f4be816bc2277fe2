/-
  hachurelaw12.DropAreas: whatever the numbers: it returns true; the numbers read as before. Conditions: none. Own work.
-/
import Derived.Test.YtkdfnbahehdhmaaGreatSeat
import Derived.Test.YtkdfnbahehdhmaaGreatTe
import Derived.Test.YtkdfnbahehdhmaaGreatOpsC
import Derived.WalkKit
import Derived.ProofKit
import Derived.OpenShut
import Derived.JoinedCond
import Derived.Carry
set_option linter.unusedSimpArgs false
set_option linter.unusedVariables false
namespace Go.AM
open Go.ChangeShapes Go.WideShapes Go.ChangeAt Go.RowKit Go.Proofs Go.Proofs.YtkdfnbahehdhmaaGreat
theorem zt {W W':World} (h:Below W.heap.size W W') (may:MemPlace→Prop):W.keptBut W' may:=by
 have:=(World.keptBut_refl W may).2.2
 refine⟨h.os,h.output,fun i hi=> ?_⟩
 rw[h.block i hi]
 exact this i hi
theorem RR:ownKnob Tryz.prog.godebug=none:=by kernel_rfl
def Yj:List TypeId:=[22,44,3,5]
theorem Aq:Yj.all (vE X0.P Yj)=true:=by kernel_rfl
theorem DR:laidOutB Tryz.prog=true:=by kernel_rfl
theorem LL {n:Nat} {us:List V} (h:TV X0.P n 3 us): ∃x:Int,us=[vi x]:=by
 have u3:X0.P.underlying 3=_:=Tryz.underlying3
 cases n with
 | zero=>simp[TV] at h
 | succ n=>
   simp only[TV,u3] at h
   obtain⟨x,rfl,hw⟩:=h
   exact⟨x,rfl⟩
theorem c3:X0.P.cellsOf 3=1:=by kernel_rfl
theorem Ar {X:Ctx} {μ:Mu} {sz:Nat} {v:Value} (h:aj X μ .nils v):aj X μ (.lit sz []) v:=by
 simp only[aj] at h ⊢
 obtain⟨a,rfl⟩:=h
 exact⟨rfl,rfl,a,0,[],rfl,Nat.le_refl _,by simp[ah],.inl trivial⟩
theorem Gt {n:Nat} {us:List V} (h:TV X0.P n 44 us): ∃l:List Int,l.length≤maxLen∧(us=[.nils]∧l=[]∨us=[dM l]):=by
 have RS:X0.P.underlying 44=_:=Tryz.underlying44
 have u3:X0.P.underlying 3=_:=Tryz.underlying3
 cases n with
 | zero=>simp[TV] at h
 | succ n=>
   simp only[TV,RS,c3] at h
   rcases h with rfl| ⟨xs,rfl,Li,hx⟩
   · exact⟨[],by simp,.inl ⟨rfl,rfl⟩⟩
   · have: ∃l:List Int,xs=l.map vi:=by
      clear RS Li
      induction xs with
      | nil=>exact⟨[],rfl⟩
      | cons x xs ih=>
        obtain⟨l,hl⟩:=ih (fun y hy=>hx y (by simp[hy]))
        obtain⟨ws,h1,h2⟩:=hx x (by simp)
        obtain⟨p,rfl⟩:=LL h1
        exact⟨p::l,by simp[hl,h2,qI,u3]⟩
     obtain⟨l,rfl⟩:=this
     exact⟨l,by simpa using Li,.inr rfl⟩
theorem DS {  n:Nat} {us:List V} (h:TV X0.P n 22 us): ∃ls:List (List Int),ls.length≤maxLen∧(∀l ∈ ls,l.length≤maxLen)∧
   ∀ (X:Ctx) (μ:Mu) (v:Value),ah X μ us [v]→aj X μ (dI ls) v:=by
 have Yk:X0.P.underlying 22=_:=Tryz.underlying22
 have RS:X0.P.underlying 44=_:=Tryz.underlying44
 have c55:X0.P.cellsOf 44=1:=by kernel_rfl
 cases n with
 | zero=>simp[TV] at h
 | succ n=>
   simp only[TV,Yk,c55] at h
   rcases h with rfl| ⟨xs,rfl,Li,hx⟩
   · exact⟨[],by simp,by simp,fun X μ v hv=>by
       simp only[ah] at hv
       exact Ar hv.1⟩
   · have: ∃ls:List (List Int),ls.length=xs.length∧(∀l ∈ ls,l.length≤maxLen)∧V.al xs=true∧xs.all V.cw=true∧
         ∀ (X:Ctx) (μ:Mu) (vs:List Value),ah X μ xs vs→ah X μ (ls.map dM) vs:=by
       clear Yk Li
       induction xs with
       | nil=>exact⟨[],rfl,by simp,rfl,rfl,fun X μ vs h=>h⟩
       | cons x xs ih=>
         obtain⟨ls,e1,e2,e3,e4,e5⟩:=ih (fun y hy=>hx y (by simp[hy]))
         obtain⟨ws,h1,h2⟩:=hx x (by simp)
         obtain⟨l,k1,k2⟩:=Gt h1
         have qe:x= .nils∧l=[]∨x=dM l:=by
           rcases k2 with⟨rfl,rfl⟩ | rfl
           · exact .inl ⟨by simp[h2,qI,RS],rfl⟩
           · exact .inr (by simp[h2,qI,RS])
         refine⟨l::ls,by simp[e1],fun y hy=> ?_,?_,?_,fun X μ vs hv=> ?_⟩
         · rcases List.mem_cons.1 hy with rfl| hy
           · exact k1
           · exact e2 y hy
         · rcases qe with⟨rfl,_⟩ | rfl
           · simpa [V.al,V.aw] using e3
           · simpa [V.al,V.aw,dM] using e3
         · rcases qe with⟨rfl,_⟩ | rfl
           · simpa [V.cw,V.aC] using e4
           · simpa [V.cw,V.aC,dM] using e4
         · cases vs with
           | nil=>simp[ah] at hv
           | cons v vs=>
             simp only[ah,List.map_cons] at hv ⊢
             refine⟨?_,e5 X μ vs hv.2⟩
             rcases qe with⟨rfl,rfl⟩ | rfl
             · exact Ar hv.1
             · exact hv.1
     obtain⟨ls,e1,e2,e3,e4,e5⟩:=this
     refine⟨ls,by omega,e2,fun X μ v hv=> ?_⟩
     simp only[ah,aj] at hv
     obtain⟨⟨h1,h2,a,cap,vs,rfl,h3,h4,h5⟩,_⟩:=hv
     simp only[dI,aj,List.length_map]
     refine⟨AM.bP (fun _=>rfl) _,by simp[List.all_eq_true,V.cw,V.aC,dM],a,cap,vs,by rw[e1],by omega,e5 X μ vs h4,?_⟩
     rcases h5 with h5| h5
     · left
       have:ls=[]:=by
         have:ls.length=0:=by rw[e1,h5];rfl
         simpa using this
       rw[this];rfl
     · exact .inr h5
theorem Gu {n:Nat} {us:List V} {X:Ctx} {μ:Mu} {t:Int} (hr:ah X μ us [.int .u8 t]) (h:TV X0.P n 5 us): ∃m:Nat,m< 256∧t=(m:Int)∧us=[.int .u8 (m:Int)]:=by
 have u5:X0.P.underlying 5=_:=Tryz.underlying5
 cases n with
 | zero=>simp[TV] at h
 | succ n=>
   simp only[TV,u5] at h
   obtain⟨x,rfl,hw⟩:=h
   simp only[ah,aj] at hr
   obtain⟨hr,_⟩:=hr
   injection hr with _ hr
   subst hr
   simp only[Lit.wf,Bool.and_eq_true,decide_eq_true_eq,IntKind.min,IntKind.max,IntKind.signed,IntKind.bits] at hw
   have h0:0≤t:=by simpa using hw.1
   have h1:t≤255:=by have:=hw.2;simp at this;omega
   refine⟨t.toNat,by omega,by omega,?_⟩
   rw[Int.toNat_of_nonneg h0]
set_option maxRecDepth 100000 in
theorem tA (H:Type) (enc:TypeId×Value→H) (W:World) (base:Nat) (args:Array Value) (ds gs:List (DataW H)) (before:List MemPlace)
  (xn: ∀ (j:Nat) t v,Tryz.f5.params[j]? =some t→args[j]? =some v→Value.okWide Tryz.prog W .any base t v)
  (hW:DataW.Whole enc Tryz.prog Tryz.f5.params.toList Rows.dropAreasSpec.vars false W args.toList ds gs before):
  Calls Tryz.prog 5 args W fun e W'=> ∃v,e= .returned v∧Rows.dropAreasSpec.post enc Tryz.prog Tryz.f5 false true false false W args v W':=by
 have Uz:=hW
 obtain⟨p,q,Yl,hV,rfl,fm,ER⟩:=hW
 have hA:DataW.TrodAll enc Tryz.prog W 0 (fun _=>true) true Tryz.f5.params.toList args.toList ds p:=Yl
 rw[Tryz.params5] at hA xn
 obtain⟨v0,vs0,d0,ds0,p0,q0,iv,rfl,rfl,h0,r0⟩:=trodAll_cons hA
 obtain⟨v1,ZW,d1,ds1,p1,q1,rfl,rfl,rfl,h1,r1⟩:=trodAll_cons r0
 obtain⟨rfl,rfl,rfl⟩:=trodAll_nil r1
 obtain rfl:args= #[v0,v1]:=by cases args;simp_all
 obtain⟨rfl,rfl⟩:=trodVars_none hV
 clear Yl
 have hW2:=Uz
 simp only[List.append_nil] at Uz
 obtain⟨a,len,cap,rfl⟩:=okWide_slice Tryz.underlying22 (xn 0 22 v0 rfl rfl)
 obtain⟨t,rfl⟩:=okWide_int Tryz.underlying5 (xn 1 5 v1 rfl rfl)
 have h0k:=h0;have h1k:=h1
 obtain⟨xd,hf0⟩:=h0
 obtain⟨us0,g00,g01,g02,g03⟩:=trod_good (X:=X0) Aq xd 22 _ _ (by decide) hf0
 obtain⟨ls,Ug,zZ,UU⟩:=DS g00
 obtain⟨RT,Ut⟩:=h1
 obtain⟨us1,Wg,Vu,g12,Ym⟩:=trod_good (X:=X0) Aq RT 5 _ _ (by decide) Ut
 obtain⟨n,hn,rfl,rfl⟩:=Gu (Ym fun _=> ⟨0,0,0⟩) Wg
 have Wz: ∀x ∈ p0,x.block<W.heap.size:=fun x hx=>Uz.lt x (by simp[hx])
 have WA: ∀x ∈ p1,x.block<W.heap.size:=fun x hx=>Uz.lt x (by simp[hx])
 have LM:pU ls:=by
  have hm:maxLen< 9223372036854775808:=by decide
  exact⟨by omega,fun l hl=>by have:=zZ l hl;omega⟩
 refine(BK (F:=5) RU rfl Tryz.func5 (by kernel_rfl) rfl (vG LM n hn) (by simp[V.al,V.aw,dI,AM.bP (f:=dM) (fun _=>rfl)]) (vals:=[.slice a len cap,.int .u8 (n:Int)])
  (fun φ=>by
    have h1:ah (free X0) (still W φ) [dI ls] [Value.slice a len cap]:=by
     simp only[ah]
     exact⟨UU _ _ _ (g03 φ),trivial⟩
    exact ah.append h1 (Ym φ))).mono fun e W' ⟨he,hb,hz⟩=> ?_
 subst he
 refine⟨_,rfl,BJ (pa:=p0++(p1++[])) (pv:=[]) hW2 (fun _ _ _=> (trodAll_cons_mk (shut_bool Tryz.underlying4 _) trodAll_mk0))
  (fun sp sU=> (trodAll_cons_mk (WideElems.Trod_stays DR (by kernel_rfl) (of_decide_eq_true (by kernel_rfl)) h0k (fun x hx=>hb.same (Wz x hx)) (fun x hx=>sU x (by simp[hx])))
    (trodAll_cons_mk (WideElems.Trod_stays DR (by kernel_rfl) (of_decide_eq_true (by kernel_rfl)) h1k (fun x hx=>hb.same (WA x hx)) (fun x hx=>sU x (by simp[hx]))) trodAll_mk0))) (fun _ _=>rfl) (by simp)
  (zt hb _) hz (ok_one (by kernel_rfl) rfl (okWide_bool_mk Tryz.underlying4 _))⟩
set_option maxRecDepth 100000 in
theorem xr (os:Os) (started:os.Started) (H:Type) (enc:TypeId×Value→H):
  ReturnsInHanded {} Tryz.checked os 5 .any (Rows.dropAreasSpec.pre6 enc Tryz.prog Tryz.f5 Rows.dropAreasRow.domain false) (Rows.dropAreasSpec.post enc Tryz.prog Tryz.f5 false true false false):=by
 refine returnsInHanded_of_change (C:=Tryz.checked) RR started (by kernel_rfl) Tryz.func5
  (ChangeSpec.witness6 (enc:=enc) (C:=Tryz.checked) false ⟨#[],#[.slice none 0 0,.int .u8 0],[]⟩ 8 (by kernel_rfl) (by kernel_rfl) (by kernel_rfl) (by kernel_rfl)) ?_
 intro W base args ds gs before xn hW _ _
 exact tA H enc W base args ds gs before xn hW
theorem BL:Rows.dropAreasRow.holds Tryz.pinned (OpenSpec.ofChange Rows.dropAreasSpec):=
 OpenClaim.holds_of_wide 5 Tryz.f5 rfl rfl rfl rfl rfl rfl rfl ⟨rfl,rfl,rfl,rfl,rfl⟩ rfl rfl rfl rfl rfl (by kernel_rfl) Tryz.func5 (by kernel_rfl)
  (of_decide_eq_true (by kernel_rfl)) (by unfold Func.isWrapper;first| (rw[if_pos (by decide+kernel)];kernel_rfl) | (rw[if_neg (by decide+kernel)];exact⟨rfl,rfl⟩))
  (fun os started H enc _=>xr os started H enc)
end Go.AM
namespace Go.Proofs.YtkdfnbahehdhmaaGreat
theorem dropAreas_holds:Rows.DropAreasSaid:=Go.AM.BL
#print axioms dropAreas_holds
end Go.Proofs.YtkdfnbahehdhmaaGreat
