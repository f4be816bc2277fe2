/-
  hachurelaw12.DropAll: whatever the numbers: it returns true; the numbers read as0 before. Conditions: none. Own work.
-/
import Derived.Test.YtkdfnbahehdhmaaGreatSeat
import Derived.Test.YtkdfnbahehdhmaaGreatTe
import Derived.Test.YtkdfnbahehdhmaaGreatOpsC
import Derived.WalkKit
import Derived.ProofKit
import Derived.OpenShut
import Derived.JoinedCond
import Derived.Carry
set_option linter.unusedSimpArgs false
set_option linter.unusedVariables false
namespace Go.AM
open Go.ChangeShapes Go.WideShapes Go.ChangeAt Go.RowKit Go.Proofs Go.Proofs.YtkdfnbahehdhmaaGreat
theorem Cd {W W':World} (h:Below W.heap.size W W') (may:MemPlace→Prop):W.keptBut W' may:=by
 have:=(World.keptBut_refl W may).2.2
 refine⟨h.os,h.output,fun i hi=> ?_⟩
 rw[h.block i hi]
 exact this i hi
theorem Yb:ownKnob Tryz.prog.godebug=none:=by kernel_rfl
def SGs:List TypeId:=[22,44,23,3]
theorem yH:SGs.all (yF X0.P SGs)=true:=by kernel_rfl
theorem Ce:laidOutB Tryz.prog=true:=by kernel_rfl
theorem so {n:Nat} {us:List V} (h:TV X0.P n 3 us): ∃x:Int,us=[vi x]:=by
 have u3:X0.P.underlying 3=_:=Tryz.underlying3
 cases n with
 | zero=>simp[TV] at h
 | succ n=>
   simp only[TV,u3] at h
   obtain⟨x,rfl,hw⟩:=h
   exact⟨x,rfl⟩
theorem c3:X0.P.cellsOf 3=1:=by kernel_rfl
theorem Dw {X:Ctx} {μ:Mu} {sz:Nat} {v:Value} (h:ak X μ .nils v):ak X μ (.lit sz []) v:=by
 simp only[ak] at h ⊢
 obtain⟨a,rfl⟩:=h
 exact⟨rfl,rfl,a,0,[],rfl,Nat.le_refl _,by simp[aj],.inl trivial⟩
theorem KR {n:Nat} {us:List V} (h:TV X0.P n 44 us): ∃l:List Int,l.length≤maxLen∧(us=[.nils]∧l=[]∨us=[fb l]):=by
 have Yc:X0.P.underlying 44=_:=Tryz.underlying44
 have u3:X0.P.underlying 3=_:=Tryz.underlying3
 cases n with
 | zero=>simp[TV] at h
 | succ n=>
   simp only[TV,Yc,c3] at h
   rcases h with rfl| ⟨xs,rfl,Mq,hx⟩
   · exact⟨[],by simp,.inl ⟨rfl,rfl⟩⟩
   · have: ∃l:List Int,xs=l.map vi:=by
      clear Yc Mq
      induction xs with
      | nil=>exact⟨[],rfl⟩
      | cons x xs ih=>
        obtain⟨l,hl⟩:=ih (fun y hy=>hx y (by simp[hy]))
        obtain⟨ws,h1,h2⟩:=hx x (by simp)
        obtain⟨p,rfl⟩:=so h1
        exact⟨p::l,by simp[hl,h2,tM,u3]⟩
     obtain⟨l,rfl⟩:=this
     exact⟨l,by simpa using Mq,.inr rfl⟩
theorem HV {  n:Nat} {us:List V} (h:TV X0.P n 22 us): ∃ls:List (List Int),ls.length≤maxLen∧(∀l ∈ ls,l.length≤maxLen)∧
   ∀ (X:Ctx) (μ:Mu) (v:Value),aj X μ us [v]→ak X μ (fU ls) v:=by
 have u22:X0.P.underlying 22=_:=Tryz.underlying22
 have Yc:X0.P.underlying 44=_:=Tryz.underlying44
 have c55:X0.P.cellsOf 44=1:=by kernel_rfl
 cases n with
 | zero=>simp[TV] at h
 | succ n=>
   simp only[TV,u22,c55] at h
   rcases h with rfl| ⟨xs,rfl,Mq,hx⟩
   · exact⟨[],by simp,by simp,fun X μ v hv=>by
       simp only[aj] at hv
       exact Dw hv.1⟩
   · have: ∃ls:List (List Int),ls.length=xs.length∧(∀l ∈ ls,l.length≤maxLen)∧V.an xs=true∧xs.all V.c6=true∧
         ∀ (X:Ctx) (μ:Mu) (vs:List Value),aj X μ xs vs→aj X μ (ls.map fb) vs:=by
       clear u22 Mq
       induction xs with
       | nil=>exact⟨[],rfl,by simp,rfl,rfl,fun X μ vs h=>h⟩
       | cons x xs ih=>
         obtain⟨ls,e1,e2,e3,e4,e5⟩:=ih (fun y hy=>hx y (by simp[hy]))
         obtain⟨ws,h1,h2⟩:=hx x (by simp)
         obtain⟨l,k1,k2⟩:=KR h1
         have sY:x= .nils∧l=[]∨x=fb l:=by
           rcases k2 with⟨rfl,rfl⟩ | rfl
           · exact .inl ⟨by simp[h2,tM,Yc],rfl⟩
           · exact .inr (by simp[h2,tM,Yc])
         refine⟨l::ls,by simp[e1],fun y hy=> ?_,?_,?_,fun X μ vs hv=> ?_⟩
         · rcases List.mem_cons.1 hy with rfl| hy
           · exact k1
           · exact e2 y hy
         · rcases sY with⟨rfl,_⟩ | rfl
           · simpa [V.an,V.aC] using e3
           · simpa [V.an,V.aC,fb] using e3
         · rcases sY with⟨rfl,_⟩ | rfl
           · simpa [V.c6,V.aP] using e4
           · simpa [V.c6,V.aP,fb] using e4
         · cases vs with
           | nil=>simp[aj] at hv
           | cons v vs=>
             simp only[aj,List.map_cons] at hv ⊢
             refine⟨?_,e5 X μ vs hv.2⟩
             rcases sY with⟨rfl,rfl⟩ | rfl
             · exact Dw hv.1
             · exact hv.1
     obtain⟨ls,e1,e2,e3,e4,e5⟩:=this
     refine⟨ls,by omega,e2,fun X μ v hv=> ?_⟩
     simp only[aj,ak] at hv
     obtain⟨⟨h1,h2,a,cap,vs,rfl,h3,h4,h5⟩,_⟩:=hv
     simp only[fU,ak,List.length_map]
     refine⟨AM.bZ (fun _=>rfl) _,by simp[List.all_eq_true,V.c6,V.aP,fb],a,cap,vs,by rw[e1],by omega,e5 X μ vs h4,?_⟩
     rcases h5 with h5| h5
     · left
       have:ls=[]:=by
         have:ls.length=0:=by rw[e1,h5];rfl
         simpa using this
       rw[this];rfl
     · exact .inr h5
theorem KS {n:Nat} {us:List V} (h:TV X0.P n 23 us): ∃a b c:Int,us=[vi a,vi b,vi c]:=by
 have u23:X0.P.underlying 23=_:=Tryz.underlying23
 cases n with
 | zero=>simp[TV] at h
 | succ n=>
   simp only[TV,u23,X9,c3] at h
   obtain⟨a,b,rfl,h1,h2,a',b',rfl,h3,h4,EW,b'',rfl,h5,h6,rfl⟩:=h
   obtain⟨x,rfl⟩:=so h2
   obtain⟨y,rfl⟩:=so h4
   obtain⟨z,rfl⟩:=so h6
   exact⟨x,y,z,rfl⟩
theorem tA {P:Program} {w:World} {r:Reach} {base:Nat} {t:TypeId} {v:Value} {k:Nat} {e:TypeId} (ht:P.underlying t=some (.array k e)) (h:Value.okWide P w r base t v): ∃cs,v= .agg cs:=by
 simp only[Value.okWide,ht] at h
 obtain⟨cs,h1,_⟩:=h
 exact⟨cs,h1⟩
set_option maxRecDepth 100000 in
theorem wz (H:Type) (enc:TypeId×Value→H) (W:World) (base:Nat) (args:Array Value) (ds gs:List (DataW H)) (before:List MemPlace)
  (yE: ∀ (j:Nat) t v,Tryz.f4.params[j]? =some t→args[j]? =some v→Value.okWide Tryz.prog W .any base t v)
  (hW:DataW.Whole enc Tryz.prog Tryz.f4.params.toList Rows.dropAllSpec.vars false W args.toList ds gs before):
  Calls Tryz.prog 4 args W fun e W'=> ∃v,e= .returned v∧Rows.dropAllSpec.post enc Tryz.prog Tryz.f4 false true false false W args v W':=by
 have Yd:=hW
 obtain⟨p,q,hA0,hV,rfl,gX,I0⟩:=hW
 have hA:DataW.TrodAll enc Tryz.prog W 0 (fun _=>true) true Tryz.f4.params.toList args.toList ds p:=hA0
 rw[Tryz.params4] at hA yE
 obtain⟨v0,vs0,d0,ds0,p0,q0,jX,rfl,rfl,h0,r0⟩:=trodAll_cons hA
 obtain⟨v1,vs1,d1,ds1,p1,q1,rfl,rfl,rfl,h1,r1⟩:=trodAll_cons r0
 obtain⟨v2,vs2,d2,ds2,p2,q2,rfl,rfl,rfl,h2,r2⟩:=trodAll_cons r1
 obtain⟨rfl,rfl,rfl⟩:=trodAll_nil r2
 obtain rfl:args= #[v0,v1,v2]:=by cases args;simp_all
 obtain⟨rfl,rfl⟩:=trodVars_none hV
 clear hA0
 have hW2:=Yd
 simp only[List.append_nil] at Yd
 obtain⟨a,len,cap,rfl⟩:=okWide_slice Tryz.underlying22 (yE 0 22 v0 rfl rfl)
 obtain⟨c1,rfl⟩:=tA Tryz.underlying23 (yE 1 23 v1 rfl rfl)
 obtain⟨t,rfl⟩:=okWide_int Tryz.underlying3 (yE 2 3 v2 rfl rfl)
 have h0k:=h0;have h1k:=h1;have h2k:=h2
 obtain⟨Af,hf0⟩:=h0
 obtain⟨us0,g00,g01,g02,g03⟩:=trod_good (X:=X0) yH Af 22 _ _ (by decide) hf0
 obtain⟨ls,hl1,CZ,hl3⟩:=HV g00
 obtain⟨Ye,hf1⟩:=h1
 obtain⟨us1,HJ,Mc,g12,g13⟩:=trod_good (X:=X0) yH Ye 23 _ _ (by decide) hf1
 obtain⟨x1,x2,x3,rfl⟩:=KS HJ
 obtain⟨Yf,HK⟩:=h2
 obtain⟨us2,g20,g21,g22,g23⟩:=trod_good (X:=X0) yH Yf 3 _ _ (by decide) HK
 obtain⟨x4,rfl⟩:=so g20
 have ab0: ∀x ∈ p0,x.block<W.heap.size:=fun x hx=>Yd.lt x (by simp[hx])
 have ab1: ∀x ∈ p1,x.block<W.heap.size:=fun x hx=>Yd.lt x (by simp[hx])
 have fB: ∀x ∈ p2,x.block<W.heap.size:=fun x hx=>Yd.lt x (by simp[hx])
 have RZ:sJ ls:=by
  have hm:maxLen< 9223372036854775808:=by decide
  exact⟨by omega,fun l hl=>by have:=CZ l hl;omega⟩
 have M6: ∀ {φ:Nat→Row} {cs:List V} {c:Array Value},cs.all V.aP=true→aj (free X0) (still W φ) cs (Value.agg c).cells.toList→ak (free X0) (still W φ) (.agg cs) (.agg c):=fun h1 h2=>by
  simp only[ak]
  exact⟨h1,_,rfl,h2⟩
 refine(E7 (F:=4) Yg rfl Tryz.func4 (by kernel_rfl) rfl (agh RZ x1 x2 x3 x4) (by simp[V.an,V.aC,fU,kW,AM.bZ (f:=fb) (fun _=>rfl)]) (vals:=[.slice a len cap,.agg c1,.int .i64 t])
  (fun φ=>by
    simp only[aj]
    exact⟨hl3 _ _ _ (g03 φ),M6 rfl (g13 φ),g23 φ⟩)).mono fun e W' ⟨he,hb,hz⟩=> ?_
 subst he
 refine⟨_,rfl,E6 (pa:=p0++(p1++(p2++[]))) (pv:=[]) hW2 (fun _ _ _=> (trodAll_cons_mk (shut_bool Tryz.underlying4 _) trodAll_mk0))
  (fun sp uP=> (trodAll_cons_mk (WideElems.Trod_stays Ce (by kernel_rfl) (of_decide_eq_true (by kernel_rfl)) h0k (fun x hx=>hb.same (ab0 x hx)) (fun x hx=>uP x (by simp[hx])))
    (trodAll_cons_mk (WideElems.Trod_stays Ce (by kernel_rfl) (of_decide_eq_true (by kernel_rfl)) h1k (fun x hx=>hb.same (ab1 x hx)) (fun x hx=>uP x (by simp[hx])))
    (trodAll_cons_mk (WideElems.Trod_stays Ce (by kernel_rfl) (of_decide_eq_true (by kernel_rfl)) h2k (fun x hx=>hb.same (fB x hx)) (fun x hx=>uP x (by simp[hx]))) trodAll_mk0)))) (fun _ _=>rfl) (by simp)
  (Cd hb _) hz (ok_one (by kernel_rfl) rfl (okWide_bool_mk Tryz.underlying4 _))⟩
set_option maxRecDepth 100000 in
theorem Aq (os:Os) (started:os.Started) (H:Type) (enc:TypeId×Value→H):
  ReturnsInHanded {} Tryz.checked os 4 .any (Rows.dropAllSpec.pre6 enc Tryz.prog Tryz.f4 Rows.dropAllRow.domain false) (Rows.dropAllSpec.post enc Tryz.prog Tryz.f4 false true false false):=by
 refine returnsInHanded_of_change (C:=Tryz.checked) Yb started (by kernel_rfl) Tryz.func4
  (ChangeSpec.witness6 (enc:=enc) (C:=Tryz.checked) false ⟨#[],#[.slice none 0 0,.agg #[.int .i64 0,.int .i64 0,.int .i64 0],.int .i64 0],[]⟩ 8 (by kernel_rfl) (by kernel_rfl) (by kernel_rfl) (by kernel_rfl)) ?_
 intro W base args ds gs before yE hW _ _
 exact wz H enc W base args ds gs before yE hW
theorem E8:Rows.dropAllRow.holds Tryz.pinned (OpenSpec.ofChange Rows.dropAllSpec):=
 OpenClaim.holds_of_wide 4 Tryz.f4 rfl rfl rfl rfl rfl rfl rfl ⟨rfl,rfl,rfl,rfl,rfl⟩ rfl rfl rfl rfl rfl (by kernel_rfl) Tryz.func4 (by kernel_rfl)
  (of_decide_eq_true (by kernel_rfl)) (by unfold Func.isWrapper;first| (rw[if_pos (by decide+kernel)];kernel_rfl) | (rw[if_neg (by decide+kernel)];exact⟨rfl,rfl⟩))
  (fun os started H enc _=>Aq os started H enc)
end Go.AM
namespace Go.Proofs.YtkdfnbahehdhmaaGreat
theorem dropAll_holds:Rows.DropAllSaid:=Go.AM.E8
#print axioms dropAll_holds
end Go.Proofs.YtkdfnbahehdhmaaGreat
