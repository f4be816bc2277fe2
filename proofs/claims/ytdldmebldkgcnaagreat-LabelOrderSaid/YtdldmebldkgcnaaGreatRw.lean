/- Texts of the proof. -/
import Derived.Test.YtdldmebldkgcnaaGreatSeat
import Derived.WalkKit
import Derived.ProofKit
import Derived.OpenShut
import Derived.JoinedCond
import Derived.Carry
set_option linter.unusedSimpArgs false
set_option linter.unusedVariables false
namespace Go.AM
open Go.ChangeShapes Go.WideShapes Go.ChangeAt Go.RowKit Go.Proofs Go.Proofs.YtdldmebldkgcnaaGreat
theorem pI {W W':World} (h:Below W.heap.size W W') (may:MemPlace→Prop):W.keptBut W' may:=by
 have:=(World.keptBut_refl W may).2.2
 refine⟨h.os,h.output,fun i hi=> ?_⟩
 rw[h.block i hi]
 exact this i hi
theorem M4:ownKnob Tryz.prog.godebug=none:=aiQ
def SGs:List TypeId:=[22,37,23,3,5,36]
theorem nH:SGs.all (F7 X0.P SGs)=true:=aiQ
theorem rG:laidOutB Tryz.prog=true:=aiQ
theorem aar {n:Nat} {us:List V} (h:TV X0.P n 3 us): ∃x:Int,us=[vi x]∧ -9223372036854775808≤x∧x< 9223372036854775808:=by
 have u3:X0.P.underlying 3=_:=Tryz.underlying3
 cases n with
 | zero=>simp[TV] at h
 | succ n=>
   simp only[TV,u3] at h
   obtain⟨x,rfl,hw⟩:=h
   simp only[Lit.wf,Bool.and_eq_true,decide_eq_true_eq,IntKind.min,IntKind.max,IntKind.signed,IntKind.bits] at hw
   exact⟨x,rfl,by simpa using hw.1,by have:=hw.2;simp at this;omega⟩
theorem c3:X0.P.cellsOf 3=1:=aiQ
theorem Ga {X:Ctx} {μ:Mu} {sz:Nat} {v:Value} (h:aj X μ .nils v):aj X μ (.lit sz []) v:=by
 simp only[aj] at h ⊢
 obtain⟨a,rfl⟩:=h
 exact⟨rfl,rfl,a,0,[],rfl,aiZ _,by simp[ag],.inl trivial⟩
theorem WU {n:Nat} {us:List V} (h:TV X0.P n 37 us): ∃l:List Int,l.length≤maxLen∧(us=[.nils]∧l=[]∨us=[gq l]):=by
 have X8:X0.P.underlying 37=_:=Tryz.underlying37
 have u3:X0.P.underlying 3=_:=Tryz.underlying3
 cases n with
 | zero=>simp[TV] at h
 | succ n=>
   simp only[TV,X8,c3] at h
   rcases h with rfl| ⟨xs,rfl,Di,hx⟩
   ·exact⟨[],abW,.inl ⟨rfl,rfl⟩⟩
   ·have: ∃l:List Int,xs=l.map vi:=by
     clear X8 Di
     induction xs with
     | nil=>exact⟨[],rfl⟩
     | cons x xs ih=>
       obtain⟨l,hl⟩:=ih (fun y hy=>hx y (by simp[hy]))
       obtain⟨ws,h1,h2⟩:=hx x abW
       obtain⟨p,rfl,_⟩:=aar h1
       exact⟨p::l,by simp[hl,h2,xP,u3]⟩
    obtain⟨l,rfl⟩:=this
    exact⟨l,by simpa using Di,.inr rfl⟩
theorem wy {n:Nat} {us:List V} (h:TV X0.P n 22 us): ∃ls:List (List Int),ls.length≤maxLen∧(∀l ∈ ls,l.length≤maxLen)∧
   ∀ (X:Ctx) (μ:Mu) (v:Value),ag X μ us [v]→aj X μ (eQ ls) v:=by
 have u22:X0.P.underlying 22=_:=Tryz.underlying22
 have X8:X0.P.underlying 37=_:=Tryz.underlying37
 have c55:X0.P.cellsOf 37=1:=aiQ
 cases n with
 | zero=>simp[TV] at h
 | succ n=>
   simp only[TV,u22,c55] at h
   rcases h with rfl| ⟨xs,rfl,Di,hx⟩
   ·exact⟨[],abW,abW,fun X μ v hv=>by
     simp only[ag] at hv
     exact Ga hv.1⟩
   ·have: ∃ls:List (List Int),ls.length=xs.length∧(∀l ∈ ls,l.length≤maxLen)∧V.al xs=true∧xs.all V.dh=true∧
       ∀ (X:Ctx) (μ:Mu) (vs:List Value),ag X μ xs vs→ag X μ (ls.map gq) vs:=by
     clear u22 Di
     induction xs with
     | nil=>exact⟨[],rfl,abW,rfl,rfl,fun X μ vs h=>h⟩
     | cons x xs ih=>
       obtain⟨ls,e1,e2,e3,e4,e5⟩:=ih (fun y hy=>hx y (by simp[hy]))
       obtain⟨ws,h1,h2⟩:=hx x abW
       obtain⟨l,k1,k2⟩:=WU h1
       have sE:x= .nils∧l=[]∨x=gq l:=by
        rcases k2 with⟨rfl,rfl⟩ | rfl
        ·exact .inl ⟨by simp[h2,xP,X8],rfl⟩
        ·exact .inr (by simp[h2,xP,X8])
       refine⟨l::ls,by simp[e1],fun y hy=> ?_,?_,?_,fun X μ vs hv=> ?_⟩
       ·rcases ai0.1 hy with rfl| hy
        ·exact k1
        ·exact e2 y hy
       ·rcases sE with⟨rfl,_⟩ | rfl
        ·simpa [V.al,V.aw] using e3
        ·simpa [V.al,V.aw,gq] using e3
       ·rcases sE with⟨rfl,_⟩ | rfl
        ·simpa [V.dh,V.aT] using e4
        ·simpa [V.dh,V.aT,gq] using e4
       ·cases vs with
        | nil=>simp[ag] at hv
        | cons v vs=>
          simp only[ag,List.map_cons] at hv ⊢
          refine⟨?_,e5 X μ vs hv.2⟩
          rcases sE with⟨rfl,rfl⟩ | rfl
          ·exact Ga hv.1
          ·exact hv.1
    obtain⟨ls,e1,e2,e3,e4,e5⟩:=this
    refine⟨ls,abV,e2,fun X μ v hv=> ?_⟩
    simp only[ag,aj] at hv
    obtain⟨⟨h1,h2,a,cap,vs,rfl,h3,h4,h5⟩,_⟩:=hv
    simp only[eQ,aj,List.length_map]
    refine⟨AM.aN (fun _=>rfl) _,by simp[aiY,V.dh,V.aT,gq],a,cap,vs,by rw[e1],abV,e5 X μ vs h4,?_⟩
    rcases h5 with h5| h5
    ·left
     have:ls=[]:=by
       have:ls.length=0:=by rw[e1,h5];rfl
       simpa using this
     rw[this];rfl
    ·exact .inr h5
theorem LH {X:Ctx} {μ:Mu} {T:TypeId} {kd:IntKind} (hu:X0.P.underlying T=some (.int kd)) {n:Nat} {us:List V} {t:Int} (hr:ag X μ us [.int kd t]) (h:TV X0.P n T us):us=[.int kd t]∧kd.min≤t∧t≤kd.max:=by
 cases n with
 | zero=>simp[TV] at h
 | succ n=>
   simp only[TV,hu] at h
   obtain⟨x,rfl,hw⟩:=h
   simp only[ag,aj] at hr
   obtain⟨hr,_⟩:=hr
   injection hr with _ hr
   subst hr
   simp only[Lit.wf,Bool.and_eq_true,decide_eq_true_eq] at hw
   exact⟨rfl,hw⟩
theorem wz {ls:List (List Int)} (h1:ls.length≤maxLen) (h2: ∀l ∈ ls,l.length≤maxLen):qf ls:=by
 have hm:maxLen< 9223372036854775808:=aiO
 exact⟨abV,fun l hl=>by have:=h2 l hl;omega⟩
theorem pH (ls:List (List Int)):V.aw (eQ ls)=true:=by
 simp[V.aw,eQ,AM.aN (f:=gq) (fun _=>rfl)]
end Go.AM
