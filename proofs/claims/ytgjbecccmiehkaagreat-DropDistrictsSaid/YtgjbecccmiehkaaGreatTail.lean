/- Texts of the proof. -/
import Derived.RangeFuncNested
import Derived.RangeFuncLeaves
import Derived.LoopNIn
import Derived.OwnWalkIn
import Derived.Scope
import Derived.StillTail
set_option linter.unusedSimpArgs false
set_option linter.unusedVariables false
namespace Go.AM
open Go Go.RowKit
def Fr (r:Option Nat):Fence:={Fence.wide with round:=r}
theorem Kc (r:Option Nat) (n:Nat): (Fr r).room n:=fun _ h=>by simp[Fr,Fence.wide] at h
theorem zU {r:Option Nat} {n m:Nat} {P:Program} {c:Code} {Q:Exit→Act→World→Prop} {a:Act} {w:World} (h:c.wpIn (Fr r) n P Q a w):c.wpIn (Fr r) m P Q a w:=
 fun b k cs h1 h2 _=>h b k cs h1 h2 (Kc r _)
theorem CX {r:Option Nat} {n:Nat} {P:Program} {f:FuncId} {args:Array Value} {w:World} {R:Ending→World→Prop} (h:Calls P f args w R):CallsIn (Fr r) n P f args w R:=
 (callsIn_wide (n:=n)).2 h
theorem Fm {r:Option Nat} {n:Nat} {P:Program} {row:String} {args:Array Value} {w:World} {R:Value→World→Prop} (h:Rows P row args w R):RowsIn (Fr r) n P row args w R:=fun c cs _=>by
 obtain⟨v,w',h1,h2⟩:=h c cs
 exact⟨v,w',h1,stepsIn_wide.2 h2⟩
theorem tH {r:Option Nat} {P:Program} {o:Oper} {a:Act} {w:World} {next:Act→World→Prop} {Q:Exit→Act→World→Prop} (hd: ∀c,o.op≠ .defer c) (h:o.wp P a w next Q):o.wpIn (Fr r) 0 P a w next Q:=by
 refine⟨fun _ _=>trivial,?_⟩
 rw[Oper.semAt_eq _ _ _ hd]
 unfold Oper.wp at h
 generalize (execOp a.eval o).run P w=x at h
 cases x with
 | ok x w'=>
   cases x<;>simp only[Oper.upon,Oper.uponIn] at h ⊢
   case value v=>exact h
   case skip=>exact h
   case defer d=>exact h
   case enter f args=>
    refine⟨fun hh=>by simp[Fr,Fence.wide] at hh,?_⟩
    exact CX h
   case row row args=>exact⟨fun hh=>by simp[Fr,Fence.wide] at hh,Fm h⟩
 | halt x w'=>
   cases x<;>simp only[Oper.upon,Oper.uponIn] at h ⊢
   case panic v=>exact h
theorem fu {P:Program} {b:Frame} {a:Act} {k:List Item} {cs:List Frame} {w:World} {c:Code}:step P (lone (b.atR a (.code (.scope c)::k)) cs w)= .next (lone (b.atR a (.code c:: .inScope c::k)) cs w):=
 step_lone_go (by simp[stepG,stepG.exec,Frame.atR])
theorem vR {P:Program} {b:Frame} {a:Act} {k:List Item} {cs:List Frame} {w:World} {c:Code}:step P (lone (b.atR a (.inScope c::k)) cs w)= .next (lone (b.atR a k) cs w):=
 step_lone_go (by simp[stepG,stepG.exec,Frame.atR])
theorem CK {F:Fence} {n:Nat} {P:Program} {c:Code} {Q:Exit→Act→World→Prop} {a:Act} {w:World} (h:c.wpIn F n P (Exit.noGoto Q) a w): (Code.scope c).wpIn F n P Q a w:=by
 intro b k cs YI hb hr
 have h0: (lone (b.atR a (.code (.scope c)::k)) cs w).fenced P F:=fenced_calm hb hr rfl
 obtain⟨e,a₁,w₁,hq,iU⟩:=h b (.inScope c::k) cs YI hb hr
 cases e with
 | normal=>exact⟨.normal,a₁,w₁,hq,.head h0 fu (StepsIn.trans iU (.one (fenced_calm hb hr rfl) vR))⟩
 | exit jF=>
   have hx:exitTo jF (.inScope c::k)=exitTo jF k:=by simp[exitTo]
   exact⟨.exit jF,a₁,w₁,hq,fun k' hk=> .head h0 fu (iU.1 k' (by rw[hx];exact hk)),
    fun sL hk=>let ⟨k₁,h1,h2⟩:=iU.2 sL (by rw[hx];exact hk); ⟨k₁,h1,.head h0 fu h2⟩⟩
 | goto l=>exact hq.elim
 | ret=>exact⟨_,a₁,w₁,hq,.of_steps (.one h0 fu) iU⟩
 | panic ch=>exact⟨_,a₁,w₁,hq,.of_steps (.one h0 fu) iU⟩
 | outgrown=>exact⟨_,a₁,w₁,hq,.of_steps (.one h0 fu) iU⟩
end Go.AM
namespace Go.AM
open Go Go.RowKit
section
variable {P:Program} {ops:Array Oper} {md:Region.Mode} {w:World} {r:Option Nat}
def tK (ops:Array Oper):Bool:=ops.all fun o=>match o.op with| .defer _=>false| _=>true
theorem yK (h:tK ops=true) {i:Nat} {o:Oper} (hi:ops[i]? =some o): ∀c,o.op≠ .defer c:=by
 intro c hc
 obtain⟨bz,rfl⟩:=Array.getElem?_eq_some_iff.1 hi
 have:=Array.all_eq_true.1 h i bz
 rw[hc] at this
 simp at this
theorem yL (hd:tK ops=true) {i:Nat} {K:Act→Prop} {K':Act→World→Prop} {Q':Exit→Act→World→Prop} {a:Act} (h: ∀a,K a→K' a w) (hh:stOp P ops w i K a):wpOpIn (Fr r) 0 P ops Q' i K' a w:=by
 unfold stOp at hh
 unfold wpOpIn
 split
 ·rename_i h0;simp only[h0] at hh;exact h _ hh
 ·rename_i o ho
  simp only[ho] at hh
  split
  ·rename_i hw
   simp only[hw,if_true] at hh
   exact tH (yK hd ho) (Oper.wp_of_still h hh)
  ·rename_i hw
   simp only[hw] at hh
   exact⟨fun _ _=>trivial,h _ hh⟩
theorem oO (hd:tK ops=true) {n g:Nat} {L:Array Bool→Act→Prop} {Q':Exit→Act→World→Prop} (hL: ∀aX a,L aX a→wpAnyIn (Fr r) 0 P md ops Q' g aX a w):
   ∀ (f:Nat) (aX:Array Bool) (a:Act),wpAnyL P md ops w n L f aX a→wpAnyIn (Fr r) 0 P md ops Q' (f+g) aX a w
 | 0,aX,a,h=>by rw[Nat.zero_add];exact hL _ _ h
 | f+1,aX,a,h=>by
   rw[show f+1+g=(f+g)+1 by omega]
   exact⟨fun h0=>absurd h0 h.1,fun i hi=>yL hd (fun a' h'=>oO hd hL f _ a' h') (h.2 i hi).2⟩
theorem qR {Q':Exit→Act→World→Prop}: ∀ (l:List Oper) (k:Nat) (aX:Array Bool) (a:Act) (w:World),(∀j,l[j]? =ops[k+j]?)→
   Region.seqB md ops l.length k aX=true→wpListIn (Fr r) 0 P ops Q' l a w→wpAnyIn (Fr r) 0 P md ops Q' l.length aX a w
 | [],_,_,_,_,_,hB,h=> ⟨by simpa [Region.seqB] using hB,h⟩
 | o::l,k,aX,a,w,hl,hB,h=>by
   have h0:ops[k]? =some o:=by simpa using (hl 0).symm
   simp only[List.length_cons,Region.seqB,Bool.and_eq_true,decide_eq_true_eq] at hB
   refine⟨fun h1=> (by rw[hB.1] at h1;cases h1),fun i hi=> ?_⟩
   rw[hB.1] at hi
   have EM:i=k:=by simpa using hi
   subst EM
   have hw:wpOpIn (Fr r) 0 P ops Q' i (wpListIn (Fr r) 0 P ops Q' l) a w:=by unfold wpOpIn;simp only[h0];exact h
   exact wpOpIn_mono (fun a' w' h'=>qR l (i+1) _ a' w' (fun j=>by have:=hl (j+1);simpa [Nat.add_assoc,Nat.add_comm 1 j] using this) hB.2 h') hw
theorem fK {id:Nat} {Q:Exit→Act→World→Prop} {a:Act} {w:World} {l:List Oper} (n:Nat) (hm:P.follows .mixedOrders=true) (hd:tK l.toArray=true) (hB:Region.lexTailB .any l.toArray n=true)
  (h:wpStill P l.toArray {w with drawn:=w.drawn+1} (fun a'=>wpListIn (Fr r) 0 P l.toArray Q (l.drop n) a' {w with drawn:=w.drawn+1}) (l.take n) a): (Code.region id l.toArray true).wpIn (Fr r) 0 P Q a w:=by
 simp only[Region.lexTailB,Bool.and_eq_true,decide_eq_true_eq] at hB
 obtain⟨⟨⟨⟨Jv,hn⟩,hs⟩,hc⟩,UG⟩:=hB
 have Zk:n<l.length:=by simpa using hn
 have LB: (l.take n).length=n:=by simp;omega
 have Pm: (l.drop n).length=l.toArray.size - n:=by simp
 have UH:HeadInv .any l.toArray n (Array.replicate l.toArray.size false):=
  ⟨by simp,fun j oj _ hl=> (by rw[getD_replicate_false] at hl;cases hl),fun t _ ht=>getD_in (by simpa using ht) (getD_replicate_false _ _)⟩
 have H:=wpAnyL_lex (md:= .any) (g:=l.toArray.size - n) Jv hs hc hn (l.take n) 0 _ a (fun j hj=>by
  have ot:j<n:=by rw[LB] at hj;exact hj
  simp[ot]) (by simpa using LB) UH (by rw[LB];exact UG) h
 refine wpIn_region_any hm ?_
 have:=oO (r:=r) hd (Q':=Q) (g:=l.toArray.size - n) (fun aX a' hL=>by
  have:=qR (r:=r) (md:= .any) (Q':=Q) (l.drop n) n aX a' {w with drawn:=w.drawn+1} (fun j=>by simp[List.getElem?_drop]) (by rw[Pm];exact hL.1) hL.2
  rwa [Pm] at this) _ _ _ H
 rw[LB,show n+(l.toArray.size - n)=l.toArray.size by omega] at this
 exact this
end
end Go.AM
