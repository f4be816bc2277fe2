/-
  Texts of the proof: AmFence.
-/
import Derived.RangeFuncNested
import Derived.RangeFuncLeaves
import Derived.LoopNIn
import Derived.OwnWalkIn
import Derived.Scope
set_option linter.unusedSimpArgs false
set_option linter.unusedVariables false
namespace Go.AM
open Go Go.RowKit
def Fr (r:Option Nat):Fence:={Fence.wide with round:=r}
theorem Cb {r:Option Nat} {n:Nat} {P:Program} {f:FuncId} {args:Array Value} {w:World} {R:Ending→World→Prop} (h:Calls P f args w R):CallsIn (Fr r) n P f args w R:=
 (callsIn_wide (n:=n)).2 h
theorem EI {r:Option Nat} {n:Nat} {P:Program} {row:String} {args:Array Value} {w:World} {R:Value→World→Prop} (h:Rows P row args w R):RowsIn (Fr r) n P row args w R:=fun c cs _=>by
 obtain⟨v,w',h1,h2⟩:=h c cs
 exact⟨v,w',h1,stepsIn_wide.2 h2⟩
theorem yk {r:Option Nat} {P:Program} {o:Oper} {a:Act} {w:World} {next:Act→World→Prop} {Q:Exit→Act→World→Prop} (hd: ∀c,o.op≠ .defer c) (h:o.wp P a w next Q):o.wpIn (Fr r) 0 P a w next Q:=by
 refine⟨fun _ _=>trivial,?_⟩
 rw[Oper.semAt_eq _ _ _ hd]
 unfold Oper.wp at h
 generalize (execOp a.eval o).run P w=x at h
 cases x with
 | ok x w'=>
   cases x<;>simp only[Oper.upon,Oper.uponIn] at h ⊢
   case value v=>exact h
   case skip=>exact h
   case defer d=>exact h
   case enter f args=>
    refine⟨fun hh=>by simp[Fr,Fence.wide] at hh,?_⟩
    exact Cb h
   case row row args=>exact⟨fun hh=>by simp[Fr,Fence.wide] at hh,EI h⟩
 | halt x w'=>
   cases x<;>simp only[Oper.upon,Oper.uponIn] at h ⊢
   case panic v=>exact h
theorem fP {P:Program} {b:Frame} {a:Act} {k:List Item} {cs:List Frame} {w:World} {c:Code}:step P (lone (b.atR a (.code (.scope c)::k)) cs w)= .next (lone (b.atR a (.code c:: .inScope c::k)) cs w):=
 step_lone_go (by simp[stepG,stepG.exec,Frame.atR])
theorem v7 {P:Program} {b:Frame} {a:Act} {k:List Item} {cs:List Frame} {w:World} {c:Code}:step P (lone (b.atR a (.inScope c::k)) cs w)= .next (lone (b.atR a k) cs w):=
 step_lone_go (by simp[stepG,stepG.exec,Frame.atR])
theorem BV {F:Fence} {n:Nat} {P:Program} {c:Code} {Q:Exit→Act→World→Prop} {a:Act} {w:World} (h:c.wpIn F n P (Exit.noGoto Q) a w): (Code.scope c).wpIn F n P Q a w:=by
 intro b k cs hro hb hr
 have h0: (lone (b.atR a (.code (.scope c)::k)) cs w).fenced P F:=fenced_calm hb hr rfl
 obtain⟨e,a₁,w₁,hq,jo⟩:=h b (.inScope c::k) cs hro hb hr
 cases e with
 | normal=>exact⟨.normal,a₁,w₁,hq,.head h0 fP (StepsIn.trans jo (.one (fenced_calm hb hr rfl) v7))⟩
 | exit jB=>
   have hx:exitTo jB (.inScope c::k)=exitTo jB k:=by simp[exitTo]
   exact⟨.exit jB,a₁,w₁,hq,fun k' hk=> .head h0 fP (jo.1 k' (by rw[hx];exact hk)),
    fun qM hk=>let ⟨k₁,h1,h2⟩:=jo.2 qM (by rw[hx];exact hk); ⟨k₁,h1,.head h0 fP h2⟩⟩
 | goto l=>exact hq.elim
 | ret=>exact⟨_,a₁,w₁,hq,.of_steps (.one h0 fP) jo⟩
 | panic ch=>exact⟨_,a₁,w₁,hq,.of_steps (.one h0 fP) jo⟩
 | outgrown=>exact⟨_,a₁,w₁,hq,.of_steps (.one h0 fP) jo⟩
end Go.AM
