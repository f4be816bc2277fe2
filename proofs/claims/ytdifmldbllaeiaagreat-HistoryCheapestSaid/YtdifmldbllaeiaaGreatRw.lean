/- Texts of the proof. -/
import Derived.Test.YtdifmldbllaeiaaGreatSeat
import Derived.WalkKit
import Derived.ProofKit
import Derived.OpenShut
import Derived.JoinedCond
import Derived.Carry
set_option linter.unusedSimpArgs false
set_option linter.unusedVariables false
namespace Go.AM
open Go.ChangeShapes Go.WideShapes Go.ChangeAt Go.RowKit Go.Proofs Go.Proofs.YtdifmldbllaeiaaGreat
theorem I0 {W W':World} (h:Below W.heap.size W W') (may:MemPlace→Prop):W.keptBut W' may:=by
 have:=(World.keptBut_refl W may).2.2
 refine⟨h.os,h.output,fun i hi=> ?_⟩
 rw[h.block i hi]
 exact this i hi
theorem abn:ownKnob Tryz.prog.godebug=none:=afW
def SGs:List TypeId:=[22,49,3]
theorem Tz:SGs.all (DO X0.P SGs)=true:=afW
theorem WW:laidOutB Tryz.prog=true:=afW
theorem WX {n:Nat} {us:List V} (h:TV X0.P n 3 us): ∃x:Int,us=[vi x]∧ -9223372036854775808≤x∧x< 9223372036854775808:=by
 have u3:X0.P.underlying 3=_:=Tryz.underlying3
 cases n with
 | zero=>simp[TV] at h
 | succ n=>
   simp only[TV,u3] at h
   obtain⟨x,rfl,hw⟩:=h
   simp only[Lit.wf,af2,decide_eq_true_eq,IntKind.min,IntKind.max,IntKind.signed,IntKind.bits] at hw
   exact⟨x,rfl,by simpa using hw.1,by have:=hw.2;simp at this;omega⟩
theorem c3:X0.P.cellsOf 3=1:=afW
theorem Kh {X:Ctx} {μ:Mu} {sz:Nat} {v:Value} (h:aj X μ .nils v):aj X μ (.lit sz []) v:=by
 simp only[aj] at h ⊢
 obtain⟨a,rfl⟩:=h
 exact⟨rfl,rfl,a,0,[],rfl,af6 _,by simp[ag],.inl trivial⟩
theorem TB {n:Nat} {us:List V} (h:TV X0.P n 49 us): ∃l:List Int,l.length≤maxLen∧(us=[.nils]∧l=[]∨us=[fP l]):=by
 have u55:X0.P.underlying 49=_:=Tryz.underlying49
 have u3:X0.P.underlying 3=_:=Tryz.underlying3
 cases n with
 | zero=>simp[TV] at h
 | succ n=>
   simp only[TV,u55,c3] at h
   rcases h with rfl| ⟨xs,rfl,CO,hx⟩
   ·exact⟨[],afU,.inl ⟨rfl,rfl⟩⟩
   ·have: ∃l:List Int,xs=l.map vi:=by
     clear u55 CO
     induction xs with
     | nil=>exact⟨[],rfl⟩
     | cons x xs ih=>
       obtain⟨l,hl⟩:=ih (fun y hy=>hx y (by simp[hy]))
       obtain⟨ws,h1,h2⟩:=hx x afU
       obtain⟨p,rfl,_⟩:=WX h1
       exact⟨p::l,by simp[hl,h2,xu,u3]⟩
    obtain⟨l,rfl⟩:=this
    exact⟨l,by simpa using CO,.inr rfl⟩
theorem QF {n:Nat} {us:List V} (h:TV X0.P n 22 us): ∃ls:List (List Int),ls.length≤maxLen∧(∀l ∈ ls,l.length≤maxLen)∧
   ∀ (X:Ctx) (μ:Mu) (v:Value),ag X μ us [v]→aj X μ (gg ls) v:=by
 have u22:X0.P.underlying 22=_:=Tryz.underlying22
 have u55:X0.P.underlying 49=_:=Tryz.underlying49
 have c55:X0.P.cellsOf 49=1:=afW
 cases n with
 | zero=>simp[TV] at h
 | succ n=>
   simp only[TV,u22,c55] at h
   rcases h with rfl| ⟨xs,rfl,CO,hx⟩
   ·exact⟨[],afU,afU,fun X μ v hv=>by
     simp only[ag] at hv
     exact Kh hv.1⟩
   ·have: ∃ls:List (List Int),ls.length=xs.length∧(∀l ∈ ls,l.length≤maxLen)∧V.ak xs=true∧xs.all V.da=true∧
       ∀ (X:Ctx) (μ:Mu) (vs:List Value),ag X μ xs vs→ag X μ (ls.map fP) vs:=by
     clear u22 CO
     induction xs with
     | nil=>exact⟨[],rfl,afU,rfl,rfl,fun X μ vs h=>h⟩
     | cons x xs ih=>
       obtain⟨ls,e1,e2,e3,e4,e5⟩:=ih (fun y hy=>hx y (by simp[hy]))
       obtain⟨ws,h1,h2⟩:=hx x afU
       obtain⟨l,k1,k2⟩:=TB h1
       have re:x= .nils∧l=[]∨x=fP l:=by
        rcases k2 with⟨rfl,rfl⟩ | rfl
        ·exact .inl ⟨by simp[h2,xu,u55],rfl⟩
        ·exact .inr (by simp[h2,xu,u55])
       refine⟨l::ls,by simp[e1],fun y hy=> ?_,?_,?_,fun X μ vs hv=> ?_⟩
       ·rcases af7.1 hy with rfl| hy
        ·exact k1
        ·exact e2 y hy
       ·rcases re with⟨rfl,_⟩ | rfl
        ·simpa [V.ak,V.au] using e3
        ·simpa [V.ak,V.au,fP] using e3
       ·rcases re with⟨rfl,_⟩ | rfl
        ·simpa [V.da,V.aR] using e4
        ·simpa [V.da,V.aR,fP] using e4
       ·cases vs with
        | nil=>simp[ag] at hv
        | cons v vs=>
          simp only[ag,List.map_cons] at hv ⊢
          refine⟨?_,e5 X μ vs hv.2⟩
          rcases re with⟨rfl,rfl⟩ | rfl
          ·exact Kh hv.1
          ·exact hv.1
    obtain⟨ls,e1,e2,e3,e4,e5⟩:=this
    refine⟨ls,ae0,e2,fun X μ v hv=> ?_⟩
    simp only[ag,aj] at hv
    obtain⟨⟨h1,h2,a,cap,vs,rfl,h3,h4,h5⟩,_⟩:=hv
    simp only[gg,aj,List.length_map]
    refine⟨AM.aV (fun _=>rfl) _,by simp[af5,V.da,V.aR,fP],a,cap,vs,by rw[e1],ae0,e5 X μ vs h4,?_⟩
    rcases h5 with h5| h5
    ·left
     have:ls=[]:=by
       have:ls.length=0:=by rw[e1,h5];rfl
       simpa using this
     rw[this];rfl
    ·exact .inr h5
theorem QG {ls:List (List Int)} (h1:ls.length≤maxLen) (h2: ∀l ∈ ls,l.length≤maxLen):wc ls:=by
 have hm:maxLen< 9223372036854775808:=afV
 exact⟨ae0,fun l hl=>by have:=h2 l hl;omega⟩
theorem IZ (ls:List (List Int)):V.au (gg ls)=true:=by
 simp[V.au,gg,AM.aV (f:=fP) (fun _=>rfl)]
end Go.AM
