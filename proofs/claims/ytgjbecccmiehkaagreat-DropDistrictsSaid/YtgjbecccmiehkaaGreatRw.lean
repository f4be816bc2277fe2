/- Texts of the proof. -/
import Derived.Test.YtgjbecccmiehkaaGreatSeat
import Derived.Test.YtgjbecccmiehkaaGreatGaa
import Derived.WalkKit
import Derived.ProofKit
import Derived.OpenShut
import Derived.JoinedCond
import Derived.Carry
set_option linter.unusedSimpArgs false
set_option linter.unusedVariables false
namespace Go.AM
open Go.ChangeShapes Go.WideShapes Go.ChangeAt Go.RowKit Go.Proofs Go.Proofs.YtgjbecccmiehkaaGreat
theorem CT {W W':World} (h:Below W.heap.size W W') (may:MemPlace→Prop):W.keptBut W' may:=by
 have:=(World.keptBut_refl W may).2.2
 refine⟨h.os,h.output,fun i hi=> ?_⟩
 rw[h.block i hi]
 exact this i hi
theorem Qt:ownKnob Tryz.prog.godebug=none:=Zo
def V8:List TypeId:=[22,32,23,3,5]
theorem DY:V8.all (yE X0.P V8)=true:=Zo
theorem Ie:laidOutB Tryz.prog=true:=Zo
theorem MP {n:Nat} {us:List V} (h:TV X0.P n 3 us): ∃x:Int,us=[vi x]∧ -9223372036854775808≤x∧x< 9223372036854775808:=by
 have u3:X0.P.underlying 3=_:=Tryz.underlying3
 cases n with
 | zero=>simp[TV] at h
 | succ n=>
   simp only[TV,u3] at h
   obtain⟨x,rfl,hw⟩:=h
   simp only[Lit.wf,Zt,decide_eq_true_eq,IntKind.min,IntKind.max,IntKind.signed,IntKind.bits] at hw
   exact⟨x,rfl,by simpa using hw.1,by have:=hw.2;simp at this;omega⟩
theorem c3:X0.P.cellsOf 3=1:=Zo
theorem yH {X:Ctx} {μ:Mu} {sz:Nat} {v:Value} (h:aj X μ .nils v):aj X μ (.lit sz []) v:=by
 simp only[aj] at h ⊢
 obtain⟨a,rfl⟩:=h
 exact⟨rfl,rfl,a,0,[],rfl,Zy _,by simp[ah],.inl trivial⟩
theorem J6 {n:Nat} {us:List V} (h:TV X0.P n 32 us): ∃l:List Int,l.length≤maxLen∧(us=[.nils]∧l=[]∨us=[ee l]):=by
 have K8:X0.P.underlying 32=_:=Tryz.underlying32
 have u3:X0.P.underlying 3=_:=Tryz.underlying3
 cases n with
 | zero=>simp[TV] at h
 | succ n=>
   simp only[TV,K8,c3] at h
   rcases h with rfl| ⟨xs,rfl,ID,hx⟩
   ·exact⟨[],Zm,.inl ⟨rfl,rfl⟩⟩
   ·have: ∃l:List Int,xs=l.map vi:=by
     clear K8 ID
     induction xs with
     | nil=>exact⟨[],rfl⟩
     | cons x xs ih=>
       obtain⟨l,hl⟩:=ih (fun y hy=>hx y (by simp[hy]))
       obtain⟨ws,h1,h2⟩:=hx x Zm
       obtain⟨p,rfl,_⟩:=MP h1
       exact⟨p::l,by simp[hl,h2,r5,u3]⟩
    obtain⟨l,rfl⟩:=this
    exact⟨l,by simpa using ID,.inr rfl⟩
theorem Ia {n:Nat} {us:List V} (h:TV X0.P n 22 us): ∃ls:List (List Int),ls.length≤maxLen∧(∀l ∈ ls,l.length≤maxLen)∧
   ∀ (X:Ctx) (μ:Mu) (v:Value),ah X μ us [v]→aj X μ (eb ls) v:=by
 have V9:X0.P.underlying 22=_:=Tryz.underlying22
 have K8:X0.P.underlying 32=_:=Tryz.underlying32
 have YH:X0.P.cellsOf 32=1:=Zo
 cases n with
 | zero=>simp[TV] at h
 | succ n=>
   simp only[TV,V9,YH] at h
   rcases h with rfl| ⟨xs,rfl,ID,hx⟩
   ·exact⟨[],Zm,Zm,fun X μ v hv=>by
     simp only[ah] at hv
     exact yH hv.1⟩
   ·have: ∃ls:List (List Int),ls.length=xs.length∧(∀l ∈ ls,l.length≤maxLen)∧V.al xs=true∧xs.all V.cq=true∧
       ∀ (X:Ctx) (μ:Mu) (vs:List Value),ah X μ xs vs→ah X μ (ls.map ee) vs:=by
     clear V9 ID
     induction xs with
     | nil=>exact⟨[],rfl,Zm,rfl,rfl,fun X μ vs h=>h⟩
     | cons x xs ih=>
       obtain⟨ls,e1,e2,e3,e4,e5⟩:=ih (fun y hy=>hx y (by simp[hy]))
       obtain⟨ws,h1,h2⟩:=hx x Zm
       obtain⟨l,k1,k2⟩:=J6 h1
       have sH:x= .nils∧l=[]∨x=ee l:=by
        rcases k2 with⟨rfl,rfl⟩ | rfl
        ·exact .inl ⟨by simp[h2,r5,K8],rfl⟩
        ·exact .inr (by simp[h2,r5,K8])
       refine⟨l::ls,by simp[e1],fun y hy=> ?_,?_,?_,fun X μ vs hv=> ?_⟩
       ·rcases Zz.1 hy with rfl| hy
        ·exact k1
        ·exact e2 y hy
       ·rcases sH with⟨rfl,_⟩ | rfl
        ·simpa [V.al,V.aq] using e3
        ·simpa [V.al,V.aq,ee] using e3
       ·rcases sH with⟨rfl,_⟩ | rfl
        ·simpa [V.cq,V.aF] using e4
        ·simpa [V.cq,V.aF,ee] using e4
       ·cases vs with
        | nil=>simp[ah] at hv
        | cons v vs=>
          simp only[ah,List.map_cons] at hv ⊢
          refine⟨?_,e5 X μ vs hv.2⟩
          rcases sH with⟨rfl,rfl⟩ | rfl
          ·exact yH hv.1
          ·exact hv.1
    obtain⟨ls,e1,e2,e3,e4,e5⟩:=this
    refine⟨ls,Zl,e2,fun X μ v hv=> ?_⟩
    simp only[ah,aj] at hv
    obtain⟨⟨h1,h2,a,cap,vs,rfl,h3,h4,h5⟩,_⟩:=hv
    simp only[eb,aj,List.length_map]
    refine⟨AM.cA (fun _=>rfl) _,by simp[Zx,V.cq,V.aF,ee],a,cap,vs,by rw[e1],Zl,e5 X μ vs h4,?_⟩
    rcases h5 with h5| h5
    ·left
     have:ls=[]:=by
       have:ls.length=0:=by rw[e1,h5];rfl
       simpa using this
     rw[this];rfl
    ·exact .inr h5
theorem Qu {n:Nat} {us:List V} (h:TV X0.P n 5 us): ∃x:Int,us=[.int .u8 x]∧0≤x∧x< 256:=by
 have u3:X0.P.underlying 5=_:=Tryz.underlying5
 cases n with
 | zero=>simp[TV] at h
 | succ n=>
   simp only[TV,u3] at h
   obtain⟨x,rfl,hw⟩:=h
   simp only[Lit.wf,Zt,decide_eq_true_eq,IntKind.min,IntKind.max,IntKind.signed,IntKind.bits] at hw
   exact⟨x,rfl,by simpa using hw.1,by have:=hw.2;simp at this;omega⟩
theorem MO {n:Nat} {us:List V} (h:TV X0.P n 23 us): ∃l:List Int,l.length≤maxLen∧(∀x ∈ l,0≤x∧x< 256)∧(us=[.nils]∧l=[]∨us=[.lit 1 (l.map (V.int .u8))]):=by
 have K8:X0.P.underlying 23=_:=Tryz.underlying23
 have u3:X0.P.underlying 5=_:=Tryz.underlying5
 have QK:X0.P.cellsOf 5=1:=Zo
 cases n with
 | zero=>simp[TV] at h
 | succ n=>
   simp only[TV,K8,QK] at h
   rcases h with rfl| ⟨xs,rfl,ID,hx⟩
   ·exact⟨[],Zm,Zm,.inl ⟨rfl,rfl⟩⟩
   ·have: ∃l:List Int,xs=l.map (V.int .u8)∧ ∀x ∈ l,0≤x∧x< 256:=by
     clear K8 ID
     induction xs with
     | nil=>exact⟨[],rfl,Zm⟩
     | cons x xs ih=>
       obtain⟨l,hl,hb⟩:=ih (fun y hy=>hx y (by simp[hy]))
       obtain⟨ws,h1,h2⟩:=hx x Zm
       obtain⟨p,rfl,Q6,Ix⟩:=Qu h1
       refine⟨p::l,by simp[hl,h2,r5,u3],fun y hy=> ?_⟩
       rcases Zz.1 hy with rfl| hy
       ·exact⟨Q6,Ix⟩
       ·exact hb y hy
    obtain⟨l,rfl,hb⟩:=this
    exact⟨l,by simpa using ID,hb,.inr rfl⟩
theorem Ic {ls:List (List Int)} (h1:ls.length≤maxLen) (h2: ∀l ∈ ls,l.length≤maxLen):si ls:=by
 have hm:maxLen< 9223372036854775808:=Zn
 exact⟨Zl,fun l hl=>by have:=h2 l hl;omega⟩
theorem CS (ls:List (List Int)):V.aq (eb ls)=true:=by
 simp[V.aq,eb,AM.cA (f:=ee) (fun _=>rfl)]
end Go.AM
