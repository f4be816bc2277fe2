/- Texts of the proof. -/
import Derived.Test.YtdifmldbllaeiaaGreatSeat
import Derived.WalkKit
import Derived.ProofKit
import Derived.OpenShut
import Derived.JoinedCond
import Derived.Carry
set_option linter.unusedSimpArgs false
set_option linter.unusedVariables false
namespace Go.AM
open Go.ChangeShapes Go.WideShapes Go.ChangeAt Go.RowKit Go.Proofs Go.Proofs.YtdifmldbllaeiaaGreat
theorem L8 {W W':World} (h:Below W.heap.size W W') (a:MemPlace->Prop):W.keptBut W' a:=by have:=(World.keptBut_refl W a).2.2;refine⟨h.os,h.output,fun i hi=> ?_⟩;rw[h.block i hi];exact this i hi
theorem aeO:ownKnob Tryz.prog.godebug=none:=ajn
def SGs:List TypeId:=[22,49,3,23]
theorem Nz:SGs.all (GP X0.P SGs)=true:=ajn
theorem UE:laidOutB Tryz.prog=true:=ajn
theorem aaM {n:Nat} {us:List V} (h:TV X0.P n 3 us): ∃x:Int,us=[vi x]/\ -9223372036854775808<=x/\x< 9223372036854775808:=by
 have a:X0.P.underlying 3=_:=Tryz.underlying3;cases n with
 | zero=>simp[TV] at h
 | succ n=>
   simp only[TV,a] at h;obtain⟨x,rfl,hw⟩:=h;simp only[Lit.wf,ajt,decide_eq_true_eq,IntKind.min,IntKind.max,IntKind.signed,IntKind.bits] at hw;exact⟨x,rfl,by simpa using hw.1,by have:=hw.2;simp at this;omega⟩
theorem c3:X0.P.cellsOf 3=1:=ajn
theorem NA {X:Ctx} {μ:Mu} {sz:Nat} {v:Value} (h:aj X μ .nils v):aj X μ (.lit sz []) v:=by simp only[aj] at h ⊢;obtain⟨a,rfl⟩:=h;exact⟨rfl,rfl,a,0,[],rfl,ajw _,by simp[ag],.inl trivial⟩
theorem XF {n:Nat} {us:List V} (h:TV X0.P n 49 us): ∃l:List Int,l.length<=maxLen/\(us=[.nils]/\l=[]\/us=[gZ l]):=by
 have a:X0.P.underlying 49=_:=Tryz.underlying49;have b:X0.P.underlying 3=_:=Tryz.underlying3;cases n with
 | zero=>simp[TV] at h
 | succ n=>
   simp only[TV,a,c3] at h;rcases h with rfl| ⟨xs,rfl,FE,hx⟩
   .exact⟨[],ajl,.inl ⟨rfl,rfl⟩⟩
   have: ∃l:List Int,xs=l.map vi:=by
    clear a FE;induction xs with
    | nil=>exact⟨[],rfl⟩
    | cons x xs c=>
      obtain⟨l,hl⟩:=c (fun y hy=>hx y (by simp[hy]));obtain⟨ws,h1,h2⟩:=hx x ajl;obtain⟨p,rfl,_⟩:=aaM h1;exact⟨p::l,by simp[hl,h2,Aa,b]⟩
   obtain⟨l,rfl⟩:=this;exact⟨l,by simpa using FE,.inr rfl⟩
theorem UC {n:Nat} {us:List V} (h:TV X0.P n 22 us): ∃b:List (List Int),b.length<=maxLen/\(∀l ∈ b,l.length<=maxLen)/\
   ∀ (X:Ctx) (μ:Mu) (v:Value),ag X μ us [v]->aj X μ (iX b) v:=by
 have c:X0.P.underlying 22=_:=Tryz.underlying22;have d:X0.P.underlying 49=_:=Tryz.underlying49;have c55:X0.P.cellsOf 49=1:=ajn;cases n with
 | zero=>simp[TV] at h
 | succ n=>
   simp only[TV,c,c55] at h;rcases h with rfl| ⟨xs,rfl,FE,hx⟩
   .exact⟨[],ajl,ajl,fun X μ v hv=>by simp only[ag] at hv;exact NA hv.1⟩
   have: ∃b:List (List Int),b.length=xs.length/\(∀l ∈ b,l.length<=maxLen)/\V.al xs=true/\xs.all V.dw=true/\
      ∀ (X:Ctx) (μ:Mu) (vs:List Value),ag X μ xs vs->ag X μ (b.map gZ) vs:=by
    clear c FE;induction xs with
    | nil=>exact⟨[],rfl,ajl,rfl,rfl,fun X μ vs h=>h⟩
    | cons x xs m=>
      obtain⟨b,e,f,g,i,j⟩:=m (fun y hy=>hx y (by simp[hy]));obtain⟨ws,h1,h2⟩:=hx x ajl;obtain⟨l,o,p⟩:=XF h1;have k:x= .nils/\l=[]\/x=gZ l:=by
       rcases p with⟨rfl,rfl⟩ | rfl
       .exact .inl ⟨by simp[h2,Aa,d],rfl⟩
       exact .inr (by simp[h2,Aa,d])
      refine⟨l::b,by simp[e],fun y hy=> ?_,?_,?_,fun X μ vs hv=> ?_⟩
      .rcases ajy.1 hy with rfl| hy
       .exact o
       exact f y hy
      .rcases k with⟨rfl,_⟩ | rfl
       .simpa [V.al,V.az] using g
       simpa [V.al,V.az,gZ] using g
      .rcases k with⟨rfl,_⟩ | rfl
       .simpa [V.dw,V.aZ] using i
       simpa [V.dw,V.aZ,gZ] using i
      cases vs with
      | nil=>simp[ag] at hv
      | cons v vs=>
        simp only[ag,List.map_cons] at hv ⊢;refine⟨?_,j X μ vs hv.2⟩;rcases k with⟨rfl,rfl⟩ | rfl
        .exact NA hv.1
        exact hv.1
   obtain⟨b,e,f,g,i,j⟩:=this;refine⟨b,ajk,f,fun X μ v hv=> ?_⟩;simp only[ag,aj] at hv;obtain⟨⟨h1,h2,a,cap,vs,rfl,h3,h4,h5⟩,_⟩:=hv;simp only[iX,aj,List.length_map];refine⟨AM.aV (fun _=>rfl) _,by simp[ajx,V.dw,V.aZ,gZ],a,cap,vs,by rw[e],ajk,j X μ vs h4,?_⟩;rcases h5 with h5| h5
   .left
    have:b=[]:=by
      have:b.length=0:=by rw[e,h5];rfl
      simpa using this
    rw[this];rfl
   exact .inr h5
theorem aaL {X:Ctx} {μ:Mu} {T:TypeId} {kd:IntKind} (a:X0.P.underlying T=some (.int kd)) {n:Nat} {us:List V} {t:Int} (hr:ag X μ us [.int kd t]) (h:TV X0.P n T us):us=[.int kd t]/\kd.min<=t/\t<=kd.max:=by
 cases n with
 | zero=>simp[TV] at h
 | succ n=>
   simp only[TV,a] at h;obtain⟨x,rfl,hw⟩:=h;simp only[ag,aj] at hr;obtain⟨hr,_⟩:=hr;injection hr with _ hr;subst hr;simp only[Lit.wf,ajt,decide_eq_true_eq] at hw;exact⟨rfl,hw⟩
theorem UD {a:List (List Int)} (h1:a.length<=maxLen) (h2: ∀l ∈ a,l.length<=maxLen):y8 a:=by have hm:maxLen< 9223372036854775808:=ajm;exact⟨ajk,fun l hl=>by have:=h2 l hl;omega⟩
theorem L7 (a:List (List Int)):V.az (iX a)=true:=by simp[V.az,iX,AM.aV (f:=gZ) (fun _=>rfl)]
end Go.AM
