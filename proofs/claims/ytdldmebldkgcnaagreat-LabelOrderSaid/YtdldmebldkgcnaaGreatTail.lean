/- Texts of the proof. -/
import Derived.RangeFuncNested
import Derived.RangeFuncLeaves
import Derived.LoopNIn
import Derived.OwnWalkIn
import Derived.Scope
import Derived.StillTail
set_option linter.unusedSimpArgs false
set_option linter.unusedVariables false
namespace Go.AM
open Go Go.RowKit
def Fr (r:Option Nat):Fence:={Fence.wide with round:=r}
theorem WZ (r:Option Nat) (n:Nat): (Fr r).room n:=fun _ h=>by simp[Fr,Fence.wide] at h
theorem Bk {r:Option Nat} {n m:Nat} {P:Program} {c:Code} {Q:Exit→Act→World→Prop} {a:Act} {w:World} (h:c.wpIn (Fr r) n P Q a w):c.wpIn (Fr r) m P Q a w:=
 fun b k cs h1 h2 _=>h b k cs h1 h2 (WZ r _)
theorem LL {r:Option Nat} {n:Nat} {P:Program} {f:FuncId} {args:Array Value} {w:World} {R:Ending→World→Prop} (h:Calls P f args w R):CallsIn (Fr r) n P f args w R:=
 (callsIn_wide (n:=n)).2 h
theorem PF {r:Option Nat} {n:Nat} {P:Program} {row:String} {args:Array Value} {w:World} {R:Value→World→Prop} (h:Rows P row args w R):RowsIn (Fr r) n P row args w R:=fun c cs _=>by
 obtain⟨v,w',h1,h2⟩:=h c cs
 exact⟨v,w',h1,stepsIn_wide.2 h2⟩
theorem r6 {r:Option Nat} {P:Program} {o:Oper} {a:Act} {w:World} {next:Act→World→Prop} {Q:Exit→Act→World→Prop} (hd: ∀c,o.op≠ .defer c) (h:o.wp P a w next Q):o.wpIn (Fr r) 0 P a w next Q:=by
 refine⟨fun _ _=>trivial,?_⟩
 rw[Oper.semAt_eq _ _ _ hd]
 unfold Oper.wp at h
 generalize (execOp a.eval o).run P w=x at h
 cases x with
 | ok x w'=>
   cases x<;>simp only[Oper.upon,Oper.uponIn] at h ⊢
   case value v=>exact h
   case skip=>exact h
   case defer d=>exact h
   case enter f args=>
    refine⟨fun hh=>by simp[Fr,Fence.wide] at hh,?_⟩
    exact LL h
   case row row args=>exact⟨fun hh=>by simp[Fr,Fence.wide] at hh,PF h⟩
 | halt x w'=>
   cases x<;>simp only[Oper.upon,Oper.uponIn] at h ⊢
   case panic v=>exact h
theorem je {P:Program} {b:Frame} {a:Act} {k:List Item} {cs:List Frame} {w:World} {c:Code}:step P (lone (b.atR a (.code (.scope c)::k)) cs w)= .next (lone (b.atR a (.code c:: .inScope c::k)) cs w):=
 step_lone_go (by simp[stepG,stepG.exec,Frame.atR])
theorem CZ {P:Program} {b:Frame} {a:Act} {k:List Item} {cs:List Frame} {w:World} {c:Code}:step P (lone (b.atR a (.inScope c::k)) cs w)= .next (lone (b.atR a k) cs w):=
 step_lone_go (by simp[stepG,stepG.exec,Frame.atR])
theorem Lr {F:Fence} {n:Nat} {P:Program} {c:Code} {Q:Exit→Act→World→Prop} {a:Act} {w:World} (h:c.wpIn F n P (Exit.noGoto Q) a w): (Code.scope c).wpIn F n P Q a w:=by
 intro b k cs hro hb hr
 have h0: (lone (b.atR a (.code (.scope c)::k)) cs w).fenced P F:=fenced_calm hb hr rfl
 obtain⟨e,a₁,w₁,hq,lL⟩:=h b (.inScope c::k) cs hro hb hr
 cases e with
 | normal=>exact⟨.normal,a₁,w₁,hq,.head h0 je (StepsIn.trans lL (.one (fenced_calm hb hr rfl) CZ))⟩
 | exit mO=>
   have hx:exitTo mO (.inScope c::k)=exitTo mO k:=by simp[exitTo]
   exact⟨.exit mO,a₁,w₁,hq,fun k' hk=> .head h0 je (lL.1 k' (by rw[hx];exact hk)),
    fun w9 hk=>let ⟨k₁,h1,h2⟩:=lL.2 w9 (by rw[hx];exact hk); ⟨k₁,h1,.head h0 je h2⟩⟩
 | goto l=>exact hq.elim
 | ret=>exact⟨_,a₁,w₁,hq,.of_steps (.one h0 je) lL⟩
 | panic ch=>exact⟨_,a₁,w₁,hq,.of_steps (.one h0 je) lL⟩
 | outgrown=>exact⟨_,a₁,w₁,hq,.of_steps (.one h0 je) lL⟩
end Go.AM
namespace Go.AM
open Go Go.RowKit
section
variable {P:Program} {ops:Array Oper} {md:Region.Mode} {w:World} {r:Option Nat}
def zH (ops:Array Oper):Bool:=ops.all fun o=>match o.op with| .defer _=>false| _=>true
theorem Gc (h:zH ops=true) {i:Nat} {o:Oper} (hi:ops[i]? =some o): ∀c,o.op≠ .defer c:=by
 intro c hc
 obtain⟨bl,rfl⟩:=Array.getElem?_eq_some_iff.1 hi
 have:=Array.all_eq_true.1 h i bl
 rw[hc] at this
 simp at this
theorem Gd (hd:zH ops=true) {i:Nat} {K:Act→Prop} {K':Act→World→Prop} {Q':Exit→Act→World→Prop} {a:Act} (h: ∀a,K a→K' a w) (hh:stOp P ops w i K a):wpOpIn (Fr r) 0 P ops Q' i K' a w:=by
 unfold stOp at hh
 unfold wpOpIn
 split
 ·rename_i h0;simp only[h0] at hh;exact h _ hh
 ·rename_i o ho
  simp only[ho] at hh
  split
  ·rename_i hw
   simp only[hw,if_true] at hh
   exact r6 (Gc hd ho) (Oper.wp_of_still h hh)
  ·rename_i hw
   simp only[hw] at hh
   exact⟨fun _ _=>trivial,h _ hh⟩
theorem tq (hd:zH ops=true) {n g:Nat} {L:Array Bool→Act→Prop} {Q':Exit→Act→World→Prop} (hL: ∀ar a,L ar a→wpAnyIn (Fr r) 0 P md ops Q' g ar a w):
   ∀ (f:Nat) (ar:Array Bool) (a:Act),wpAnyL P md ops w n L f ar a→wpAnyIn (Fr r) 0 P md ops Q' (f+g) ar a w
 | 0,ar,a,h=>by rw[Nat.zero_add];exact hL _ _ h
 | f+1,ar,a,h=>by
   rw[show f+1+g=(f+g)+1 by omega]
   exact⟨fun h0=>absurd h0 h.1,fun i hi=>Gd hd (fun a' h'=>tq hd hL f _ a' h') (h.2 i hi).2⟩
theorem wB {Q':Exit→Act→World→Prop}: ∀ (l:List Oper) (k:Nat) (ar:Array Bool) (a:Act) (w:World),(∀j,l[j]? =ops[k+j]?)→
   Region.seqB md ops l.length k ar=true→wpListIn (Fr r) 0 P ops Q' l a w→wpAnyIn (Fr r) 0 P md ops Q' l.length ar a w
 | [],_,_,_,_,_,hB,h=> ⟨by simpa [Region.seqB] using hB,h⟩
 | o::l,k,ar,a,w,hl,hB,h=>by
   have h0:ops[k]? =some o:=by simpa using (hl 0).symm
   simp only[List.length_cons,Region.seqB,Bool.and_eq_true,decide_eq_true_eq] at hB
   refine⟨fun h1=> (by rw[hB.1] at h1;cases h1),fun i hi=> ?_⟩
   rw[hB.1] at hi
   have GW:i=k:=by simpa using hi
   subst GW
   have hw:wpOpIn (Fr r) 0 P ops Q' i (wpListIn (Fr r) 0 P ops Q' l) a w:=by unfold wpOpIn;simp only[h0];exact h
   exact wpOpIn_mono (fun a' w' h'=>wB l (i+1) _ a' w' (fun j=>by have:=hl (j+1);simpa [Nat.add_assoc,Nat.add_comm 1 j] using this) hB.2 h') hw
theorem jw {id:Nat} {Q:Exit→Act→World→Prop} {a:Act} {w:World} {l:List Oper} (n:Nat) (hm:P.follows .mixedOrders=true) (hd:zH l.toArray=true) (hB:Region.lexTailB .any l.toArray n=true)
  (h:wpStill P l.toArray {w with drawn:=w.drawn+1} (fun a'=>wpListIn (Fr r) 0 P l.toArray Q (l.drop n) a' {w with drawn:=w.drawn+1}) (l.take n) a): (Code.region id l.toArray true).wpIn (Fr r) 0 P Q a w:=by
 simp only[Region.lexTailB,Bool.and_eq_true,decide_eq_true_eq] at hB
 obtain⟨⟨⟨⟨aie,hn⟩,hs⟩,hc⟩,aif⟩:=hB
 have hn':n<l.length:=by simpa using hn
 have htl: (l.take n).length=n:=by simp;omega
 have hdl: (l.drop n).length=l.toArray.size - n:=by simp
 have aih:HeadInv .any l.toArray n (Array.replicate l.toArray.size false):=
  ⟨by simp,fun j oj _ hl=> (by rw[getD_replicate_false] at hl;cases hl),fun t _ ht=>getD_in (by simpa using ht) (getD_replicate_false _ _)⟩
 have H:=wpAnyL_lex (md:= .any) (g:=l.toArray.size - n) aie hs hc hn (l.take n) 0 _ a (fun j hj=>by
  have Tr:j<n:=by rw[htl] at hj;exact hj
  simp[Tr]) (by simpa using htl) aih (by rw[htl];exact aif) h
 refine wpIn_region_any hm ?_
 have:=tq (r:=r) hd (Q':=Q) (g:=l.toArray.size - n) (fun ar a' hL=>by
  have:=wB (r:=r) (md:= .any) (Q':=Q) (l.drop n) n ar a' {w with drawn:=w.drawn+1} (fun j=>by simp[List.getElem?_drop]) (by rw[hdl];exact hL.1) hL.2
  rwa [hdl] at this) _ _ _ H
 rw[htl,show n+(l.toArray.size - n)=l.toArray.size by omega] at this
 exact this
end
end Go.AM
