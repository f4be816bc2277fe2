/-
  hachurelaw21.PartialOf: whatever the numbers: it returns true; the numbers read as before. Conditions: none. Own work.
-/
import Derived.Test.YtgkdgapmmkkcaaaGreatSeat
import Derived.Test.YtgkdgapmmkkcaaaGreatTe
import Derived.Test.YtgkdgapmmkkcaaaGreatOpsC
import Derived.WalkKit
import Derived.ProofKit
import Derived.OpenShut
import Derived.JoinedCond
import Derived.Carry
set_option linter.unusedSimpArgs false
set_option linter.unusedVariables false
namespace Go.AM
open Go.ChangeShapes Go.WideShapes Go.ChangeAt Go.RowKit Go.Proofs Go.Proofs.YtgkdgapmmkkcaaaGreat
theorem zj {W W':World} (h:Below W.heap.size W W') (may:MemPlace→Prop):W.keptBut W' may:=by
 have:=(World.keptBut_refl W may).2.2
 refine⟨h.os,h.output,fun i hi=> ?_⟩
 rw[h.block i hi]
 exact this i hi
theorem Rl:ownKnob Tryz.prog.godebug=none:=by kernel_rfl
def X6:List TypeId:=[22,52,23,27,25,3]
theorem wg:X6.all (wc X0.P X6)=true:=by kernel_rfl
theorem zk:laidOutB Tryz.prog=true:=by kernel_rfl
theorem kZ {n:Nat} {us:List V} (h:TV X0.P n 3 us): ∃x:Int,us=[vi x]:=by
 have u3:X0.P.underlying 3=_:=Tryz.underlying3
 cases n with
 | zero=>simp[TV] at h
 | succ n=>
   simp only[TV,u3] at h
   obtain⟨x,rfl,hw⟩:=h
   exact⟨x,rfl⟩
theorem c3:X0.P.cellsOf 3=1:=by kernel_rfl
theorem Aj {X:Ctx} {μ:Mu} {sz:Nat} {v:Value} (h:ak X μ .nils v):ak X μ (.lit sz []) v:=by
 simp only[ak] at h ⊢
 obtain⟨a,rfl⟩:=h
 exact⟨rfl,rfl,a,0,[],rfl,Nat.le_refl _,by simp[aj],.inl trivial⟩
theorem F7 {n:Nat} {us:List V} (h:TV X0.P n 52 us): ∃l:List Int,l.length≤maxLen∧(us=[.nils]∧l=[]∨us=[eD l]):=by
 have Rm:X0.P.underlying 52=_:=Tryz.underlying52
 have u3:X0.P.underlying 3=_:=Tryz.underlying3
 cases n with
 | zero=>simp[TV] at h
 | succ n=>
   simp only[TV,Rm,c3] at h
   rcases h with rfl| ⟨xs,rfl,FK,hx⟩
   · exact⟨[],by simp,.inl ⟨rfl,rfl⟩⟩
   · have: ∃l:List Int,xs=l.map vi:=by
      clear Rm FK
      induction xs with
      | nil=>exact⟨[],rfl⟩
      | cons x xs ih=>
        obtain⟨l,hl⟩:=ih (fun y hy=>hx y (by simp[hy]))
        obtain⟨ws,h1,h2⟩:=hx x (by simp)
        obtain⟨p,rfl⟩:=kZ h1
        exact⟨p::l,by simp[hl,h2,rM,u3]⟩
     obtain⟨l,rfl⟩:=this
     exact⟨l,by simpa using FK,.inr rfl⟩
theorem DJ {  n:Nat} {us:List V} (h:TV X0.P n 22 us): ∃ls:List (List Int),ls.length≤maxLen∧(∀l ∈ ls,l.length≤maxLen)∧
   ∀ (X:Ctx) (μ:Mu) (v:Value),aj X μ us [v]→ak X μ (fR ls) v:=by
 have X7:X0.P.underlying 22=_:=Tryz.underlying22
 have Rm:X0.P.underlying 52=_:=Tryz.underlying52
 have ZK:X0.P.cellsOf 52=1:=by kernel_rfl
 cases n with
 | zero=>simp[TV] at h
 | succ n=>
   simp only[TV,X7,ZK] at h
   rcases h with rfl| ⟨xs,rfl,FK,hx⟩
   · exact⟨[],by simp,by simp,fun X μ v hv=>by
       simp only[aj] at hv
       exact Aj hv.1⟩
   · have: ∃ls:List (List Int),ls.length=xs.length∧(∀l ∈ ls,l.length≤maxLen)∧V.aq xs=true∧xs.all V.cX=true∧
         ∀ (X:Ctx) (μ:Mu) (vs:List Value),aj X μ xs vs→aj X μ (ls.map eD) vs:=by
       clear X7 FK
       induction xs with
       | nil=>exact⟨[],rfl,by simp,rfl,rfl,fun X μ vs h=>h⟩
       | cons x xs ih=>
         obtain⟨ls,e1,e2,e3,e4,e5⟩:=ih (fun y hy=>hx y (by simp[hy]))
         obtain⟨ws,h1,h2⟩:=hx x (by simp)
         obtain⟨l,k1,k2⟩:=F7 h1
         have qZ:x= .nils∧l=[]∨x=eD l:=by
           rcases k2 with⟨rfl,rfl⟩ | rfl
           · exact .inl ⟨by simp[h2,rM,Rm],rfl⟩
           · exact .inr (by simp[h2,rM,Rm])
         refine⟨l::ls,by simp[e1],fun y hy=> ?_,?_,?_,fun X μ vs hv=> ?_⟩
         · rcases List.mem_cons.1 hy with rfl| hy
           · exact k1
           · exact e2 y hy
         · rcases qZ with⟨rfl,_⟩ | rfl
           · simpa [V.aq,V.aC] using e3
           · simpa [V.aq,V.aC,eD] using e3
         · rcases qZ with⟨rfl,_⟩ | rfl
           · simpa [V.cX,V.aI] using e4
           · simpa [V.cX,V.aI,eD] using e4
         · cases vs with
           | nil=>simp[aj] at hv
           | cons v vs=>
             simp only[aj,List.map_cons] at hv ⊢
             refine⟨?_,e5 X μ vs hv.2⟩
             rcases qZ with⟨rfl,rfl⟩ | rfl
             · exact Aj hv.1
             · exact hv.1
     obtain⟨ls,e1,e2,e3,e4,e5⟩:=this
     refine⟨ls,by omega,e2,fun X μ v hv=> ?_⟩
     simp only[aj,ak] at hv
     obtain⟨⟨h1,h2,a,cap,vs,rfl,h3,h4,h5⟩,_⟩:=hv
     simp only[fR,ak,List.length_map]
     refine⟨AM.cr (fun _=>rfl) _,by simp[List.all_eq_true,V.cX,V.aI,eD],a,cap,vs,by rw[e1],by omega,e5 X μ vs h4,?_⟩
     rcases h5 with h5| h5
     · left
       have:ls=[]:=by
         have:ls.length=0:=by rw[e1,h5];rfl
         simpa using this
       rw[this];rfl
     · exact .inr h5
theorem F8 {n:Nat} {us:List V} (h:TV X0.P n 23 us): ∃a b c:Int,us=[vi a,vi b,vi c]:=by
 have ZL:X0.P.underlying 23=_:=Tryz.underlying23
 cases n with
 | zero=>simp[TV] at h
 | succ n=>
   simp only[TV,ZL,UQ,c3] at h
   obtain⟨a,b,rfl,h1,h2,a',b',rfl,h3,h4,Bx,b'',rfl,h5,h6,rfl⟩:=h
   obtain⟨x,rfl⟩:=kZ h2
   obtain⟨y,rfl⟩:=kZ h4
   obtain⟨z,rfl⟩:=kZ h6
   exact⟨x,y,z,rfl⟩
theorem G9 {n:Nat} {us:List V} (h:TV X0.P n 25 us): ∃a b:Int,us=[vi a,vi b]:=by
 have ZM:X0.P.underlying 25=_:=Tryz.underlying25
 cases n with
 | zero=>simp[TV] at h
 | succ n=>
   simp only[TV,ZM,Ri,c3] at h
   obtain⟨a,b,rfl,h1,h2,a',b',rfl,h3,h4,rfl⟩:=h
   obtain⟨x,rfl⟩:=kZ h2
   obtain⟨y,rfl⟩:=kZ h4
   exact⟨x,y,rfl⟩
theorem F9 {n:Nat} {us:List V} (h:TV X0.P n 27 us): ∃v:Vw,us=[vi v.ax,vi v.ay,vi v.ux,vi v.uy,vi v.w,vi v.h,vi v.hour]:=by
 have ZN:X0.P.underlying 27=_:=Tryz.underlying27
 cases n with
 | zero=>simp[TV] at h
 | succ n=>
   simp only[TV,ZN,Ri,c3] at h
   obtain⟨a,b,rfl,h1,h2,a',b',rfl,h3,h4,a1,b1,rfl,h5,h6,a2,b2,rfl,h7,h8,a3,b3,rfl,h9,ZO,rfl⟩:=h
   obtain⟨x1,y1,rfl⟩:=G9 h2
   obtain⟨x2,y2,rfl⟩:=G9 h4
   obtain⟨x3,rfl⟩:=kZ h6
   obtain⟨x4,rfl⟩:=kZ h8
   obtain⟨x5,rfl⟩:=kZ ZO
   exact⟨⟨x1,y1,x2,y2,x3,x4,x5⟩,rfl⟩
theorem xI {P:Program} {w:World} {r:Reach} {base:Nat} {t:TypeId} {v:Value} {k:Nat} {e:TypeId} (ht:P.underlying t=some (.array k e)) (h:Value.okWide P w r base t v): ∃cs,v= .agg cs:=by
 simp only[Value.okWide,ht] at h
 obtain⟨cs,h1,_⟩:=h
 exact⟨cs,h1⟩
theorem xJ {P:Program} {w:World} {r:Reach} {base:Nat} {t:TypeId} {v:Value} {fs:Array Field} (ht:P.underlying t=some (.struct fs)) (h:Value.okWide P w r base t v): ∃cs,v= .agg cs:=by
 obtain⟨cs,h1,_⟩:=okWide_struct ht h
 exact⟨cs,h1⟩
set_option maxRecDepth 100000 in
theorem uj (H:Type) (enc:TypeId×Value→H) (W:World) (base:Nat) (args:Array Value) (ds gs:List (DataW H)) (before:List MemPlace)
  (wb: ∀ (j:Nat) t v,Tryz.f3.params[j]? =some t→args[j]? =some v→Value.okWide Tryz.prog W .any base t v)
  (hW:DataW.Whole enc Tryz.prog Tryz.f3.params.toList Rows.partialOfSpec.vars false W args.toList ds gs before):
  Calls Tryz.prog 3 args W fun e W'=> ∃v,e= .returned v∧Rows.partialOfSpec.post enc Tryz.prog Tryz.f3 false true false false W args v W':=by
 have Rn:=hW
 obtain⟨p,q,X8,hV,rfl,fY,Eb⟩:=hW
 have hA:DataW.TrodAll enc Tryz.prog W 0 (fun _=>true) true Tryz.f3.params.toList args.toList ds p:=X8
 rw[Tryz.params3] at hA wb
 obtain⟨v0,vs0,d0,ds0,p0,q0,jm,rfl,rfl,h0,r0⟩:=trodAll_cons hA
 obtain⟨v1,Zr,d1,ds1,p1,q1,rfl,rfl,rfl,h1,r1⟩:=trodAll_cons r0
 obtain⟨v2,Yf,d2,ds2,p2,q2,rfl,rfl,rfl,h2,r2⟩:=trodAll_cons r1
 obtain⟨rfl,rfl,rfl⟩:=trodAll_nil r2
 obtain rfl:args= #[v0,v1,v2]:=by cases args;simp_all
 obtain⟨rfl,rfl⟩:=trodVars_none hV
 clear X8
 have ZP:=Rn
 simp only[List.append_nil] at Rn
 obtain⟨a,len,cap,rfl⟩:=okWide_slice Tryz.underlying22 (wb 0 22 v0 rfl rfl)
 obtain⟨c1,rfl⟩:=xI Tryz.underlying23 (wb 1 23 v1 rfl rfl)
 obtain⟨c2,rfl⟩:=xJ Tryz.underlying27 (wb 2 27 v2 rfl rfl)
 have ZQ:=h0;have ZR:=h1;have ZS:=h2
 obtain⟨xu,ZT⟩:=h0
 obtain⟨us0,ZU,g01,g02,ZV⟩:=trod_good (X:=X0) wg xu 22 _ _ (by decide) ZT
 obtain⟨ls,Xm,zJ,Uz⟩:=DJ ZU
 obtain⟨Ro,UN⟩:=h1
 obtain⟨us1,G0,rX,g12,ZW⟩:=trod_good (X:=X0) wg Ro 23 _ _ (by decide) UN
 obtain⟨x1,x2,x3,rfl⟩:=F8 G0
 obtain⟨Rp,Dy⟩:=h2
 obtain⟨us2,ZX,g21,g22,ZY⟩:=trod_good (X:=X0) wg Rp 27 _ _ (by decide) Dy
 obtain⟨vw,rfl⟩:=F9 ZX
 have WN: ∀x ∈ p0,x.block<W.heap.size:=fun x hx=>Rn.lt x (by simp[hx])
 have WO: ∀x ∈ p1,x.block<W.heap.size:=fun x hx=>Rn.lt x (by simp[hx])
 have fJ: ∀x ∈ p2,x.block<W.heap.size:=fun x hx=>Rn.lt x (by simp[hx])
 have Lu:sD ls:=by
  have hm:maxLen< 9223372036854775808:=by decide
  exact⟨by omega,fun l hl=>by have:=zJ l hl;omega⟩
 have Ho: ∀ {φ:Nat→Row} {cs:List V} {c:Array Value},cs.all V.aI=true→aj (free X0) (still W φ) cs (Value.agg c).cells.toList→ak (free X0) (still W φ) (.agg cs) (.agg c):=fun h1 h2=>by
  simp only[ak]
  exact⟨h1,_,rfl,h2⟩
 refine(BI (F:=3) Rq rfl Tryz.func3 (by kernel_rfl) rfl (wh Lu x1 x2 x3 vw) (by simp[V.aq,V.aC,fR,kp,Vw.v,AM.cr (f:=eD) (fun _=>rfl)]) (vals:=[.slice a len cap,.agg c1,.agg c2])
  (fun φ=>by
    simp only[aj]
    exact⟨Uz _ _ _ (ZV φ),Ho rfl (ZW φ),Ho rfl (ZY φ),trivial⟩)).mono fun e W' ⟨he,hb,hz⟩=> ?_
 subst he
 refine⟨_,rfl,BH (pa:=p0++(p1++(p2++[]))) (pv:=[]) ZP (fun _ _ _=> (trodAll_cons_mk (shut_bool Tryz.underlying4 _) trodAll_mk0))
  (fun sp sG=> (trodAll_cons_mk (WideElems.Trod_stays zk (by kernel_rfl) (of_decide_eq_true (by kernel_rfl)) ZQ (fun x hx=>hb.same (WN x hx)) (fun x hx=>sG x (by simp[hx])))
    (trodAll_cons_mk (WideElems.Trod_stays zk (by kernel_rfl) (of_decide_eq_true (by kernel_rfl)) ZR (fun x hx=>hb.same (WO x hx)) (fun x hx=>sG x (by simp[hx])))
    (trodAll_cons_mk (WideElems.Trod_stays zk (by kernel_rfl) (of_decide_eq_true (by kernel_rfl)) ZS (fun x hx=>hb.same (fJ x hx)) (fun x hx=>sG x (by simp[hx]))) trodAll_mk0)))) (fun _ _=>rfl) (by simp)
  (zj hb _) hz (ok_one (by kernel_rfl) rfl (okWide_bool_mk Tryz.underlying4 _))⟩
set_option maxRecDepth 100000 in
theorem xK (os:Os) (started:os.Started) (H:Type) (enc:TypeId×Value→H):
  ReturnsInHanded {} Tryz.checked os 3 .any (Rows.partialOfSpec.pre6 enc Tryz.prog Tryz.f3 Rows.partialOfRow.domain false) (Rows.partialOfSpec.post enc Tryz.prog Tryz.f3 false true false false):=by
 refine returnsInHanded_of_change (C:=Tryz.checked) Rl started (by kernel_rfl) Tryz.func3
  (ChangeSpec.witness6 (enc:=enc) (C:=Tryz.checked) false ⟨#[],#[.slice none 0 0,.agg #[.int .i64 0,.int .i64 0,.int .i64 0],.agg #[.int .i64 0,.int .i64 0,.int .i64 0,.int .i64 0,.int .i64 0,.int .i64 0,.int .i64 0]],[]⟩ 8 (by kernel_rfl) (by kernel_rfl) (by kernel_rfl) (by kernel_rfl)) ?_
 intro W base args ds gs before wb hW _ _
 exact uj H enc W base args ds gs before wb hW
theorem BJ:Rows.partialOfRow.holds Tryz.pinned (OpenSpec.ofChange Rows.partialOfSpec):=
 OpenClaim.holds_of_wide 3 Tryz.f3 rfl rfl rfl rfl rfl rfl rfl ⟨rfl,rfl,rfl,rfl,rfl⟩ rfl rfl rfl rfl rfl (by kernel_rfl) Tryz.func3 (by kernel_rfl)
  (of_decide_eq_true (by kernel_rfl)) (by unfold Func.isWrapper;first| (rw[if_pos (by decide+kernel)];kernel_rfl) | (rw[if_neg (by decide+kernel)];exact⟨rfl,rfl⟩))
  (fun os started H enc _=>xK os started H enc)
end Go.AM
namespace Go.Proofs.YtgkdgapmmkkcaaaGreat
theorem partialOf_holds:Rows.PartialOfSaid:=Go.AM.BJ
#print axioms partialOf_holds
end Go.Proofs.YtgkdgapmmkkcaaaGreat
