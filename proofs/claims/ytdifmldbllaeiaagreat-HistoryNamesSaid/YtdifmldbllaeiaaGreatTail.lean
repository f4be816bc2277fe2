/- Texts of the proof. -/
import Derived.RangeFuncNested
import Derived.RangeFuncLeaves
import Derived.LoopNIn
import Derived.OwnWalkIn
import Derived.Scope
import Derived.StillTail
set_option linter.unusedSimpArgs false
set_option linter.unusedVariables false
namespace Go.AM
open Go Go.RowKit
def Fr (r:Option Nat):Fence:={Fence.wide with round:=r}
theorem XL (r:Option Nat) (n:Nat): (Fr r).room n:=fun _ h=>by simp[Fr,Fence.wide] at h
theorem B2 {r:Option Nat} {n m:Nat} {P:Program} {c:Code} {Q:Exit->Act->World->Prop} {a:Act} {w:World} (h:c.wpIn (Fr r) n P Q a w):c.wpIn (Fr r) m P Q a w:=
 fun b k cs h1 h2 _=>h b k cs h1 h2 (XL r _)
theorem Md {r:Option Nat} {n:Nat} {P:Program} {f:FuncId} {args:Array Value} {w:World} {R:Ending->World->Prop} (h:Calls P f args w R):CallsIn (Fr r) n P f args w R:=
 (callsIn_wide (n:=n)).2 h
theorem PW {r:Option Nat} {n:Nat} {P:Program} {row:String} {args:Array Value} {w:World} {R:Value->World->Prop} (h:Rows P row args w R):RowsIn (Fr r) n P row args w R:=fun c cs _=>by obtain⟨v,w',h1,h2⟩:=h c cs;exact⟨v,w',h1,stepsIn_wide.2 h2⟩
theorem tp {r:Option Nat} {P:Program} {o:Oper} {a:Act} {w:World} {b:Act->World->Prop} {Q:Exit->Act->World->Prop} (hd: ∀c,o.op≠ .defer c) (h:o.wp P a w b Q):o.wpIn (Fr r) 0 P a w b Q:=by
 refine⟨fun _ _=>trivial,?_⟩;rw[Oper.semAt_eq _ _ _ hd];unfold Oper.wp at h;generalize (execOp a.eval o).run P w=x at h;cases x with
 | ok x w'=>
   cases x<;>simp only[Oper.upon,Oper.uponIn] at h ⊢
   case value v=>exact h
   case skip=>exact h
   case defer d=>exact h
   case enter f args=>
    refine⟨fun hh=>by simp[Fr,Fence.wide] at hh,?_⟩;exact Md h
   case row row args=>exact⟨fun hh=>by simp[Fr,Fence.wide] at hh,PW h⟩
 | halt x w'=>
   cases x<;>simp only[Oper.upon,Oper.uponIn] at h ⊢
   case panic v=>exact h
theorem jF {P:Program} {b:Frame} {a:Act} {k:List Item} {cs:List Frame} {w:World} {c:Code}:step P (lone (b.atR a (.code (.scope c)::k)) cs w)= .next (lone (b.atR a (.code c:: .inScope c::k)) cs w):=
 step_lone_go (by simp[stepG,stepG.exec,Frame.atR])
theorem DB {P:Program} {b:Frame} {a:Act} {k:List Item} {cs:List Frame} {w:World} {c:Code}:step P (lone (b.atR a (.inScope c::k)) cs w)= .next (lone (b.atR a k) cs w):=
 step_lone_go (by simp[stepG,stepG.exec,Frame.atR])
theorem LV {F:Fence} {n:Nat} {P:Program} {c:Code} {Q:Exit->Act->World->Prop} {a:Act} {w:World} (h:c.wpIn F n P (Exit.noGoto Q) a w): (Code.scope c).wpIn F n P Q a w:=by
 intro b k cs g hb hr;have h0: (lone (b.atR a (.code (.scope c)::k)) cs w).fenced P F:=fenced_calm hb hr rfl;obtain⟨e,a₁,w₁,d,f⟩:=h b (.inScope c::k) cs g hb hr;cases e with
 | normal=>exact⟨.normal,a₁,w₁,d,.head h0 jF (StepsIn.trans f (.one (fenced_calm hb hr rfl) DB))⟩
 | exit i=>
   have hx:exitTo i (.inScope c::k)=exitTo i k:=by simp[exitTo]
   exact⟨.exit i,a₁,w₁,d,fun m j=> .head h0 jF (f.1 m (by rw[hx];exact j)),
    fun o j=>let ⟨k₁,h1,h2⟩:=f.2 o (by rw[hx];exact j); ⟨k₁,h1,.head h0 jF h2⟩⟩
 | goto l=>exact d.elim
 | ret=>exact⟨_,a₁,w₁,d,.of_steps (.one h0 jF) f⟩
 | panic p=>exact⟨_,a₁,w₁,d,.of_steps (.one h0 jF) f⟩
 | outgrown=>exact⟨_,a₁,w₁,d,.of_steps (.one h0 jF) f⟩
end Go.AM
namespace Go.AM
open Go Go.RowKit
section
variable {P:Program} {ops:Array Oper} {md:Region.Mode} {w:World} {r:Option Nat}
def AH (ops:Array Oper):Bool:=ops.all fun o=>match o.op with| .defer _=>false| _=>true
theorem GU (h:AH ops=true) {i:Nat} {o:Oper} (hi:ops[i]? =some o): ∀c,o.op≠ .defer c:=by intro c hc;obtain⟨a,rfl⟩:=Array.getElem?_eq_some_iff.1 hi;have:=Array.all_eq_true.1 h i a;rw[hc] at this;simp at this
theorem GV (hd:AH ops=true) {i:Nat} {K:Act->Prop} {K':Act->World->Prop} {Q':Exit->Act->World->Prop} {a:Act} (h: ∀a,K a->K' a w) (hh:stOp P ops w i K a):wpOpIn (Fr r) 0 P ops Q' i K' a w:=by
 unfold stOp at hh;unfold wpOpIn;split
 .rename_i h0;simp only[h0] at hh;exact h _ hh
 rename_i o b;simp only[b] at hh;split
 .rename_i hw;simp only[hw,if_true] at hh;exact tp (GU hd b) (Oper.wp_of_still h hh)
 rename_i hw;simp only[hw] at hh;exact⟨fun _ _=>trivial,h _ hh⟩
theorem uJ (hd:AH ops=true) {n g:Nat} {L:Array Bool->Act->Prop} {Q':Exit->Act->World->Prop} (b: ∀av a,L av a->wpAnyIn (Fr r) 0 P md ops Q' g av a w):
   ∀ (f:Nat) (av:Array Bool) (a:Act),wpAnyL P md ops w n L f av a->wpAnyIn (Fr r) 0 P md ops Q' (f+g) av a w
 | 0,av,a,h=>by rw[Nat.zero_add];exact b _ _ h
 | f+1,av,a,h=>by rw[show f+1+g=(f+g)+1 by omega];exact⟨fun h0=>absurd h0 h.1,fun i hi=>GV hd (fun a' c=>uJ hd b f _ a' c) (h.2 i hi).2⟩
theorem xB {Q':Exit->Act->World->Prop}: ∀ (l:List Oper) (k:Nat) (av:Array Bool) (a:Act) (w:World),(∀j,l[j]? =ops[k+j]?)->
   Region.seqB md ops l.length k av=true->wpListIn (Fr r) 0 P ops Q' l a w->wpAnyIn (Fr r) 0 P md ops Q' l.length av a w
 | [],_,_,_,_,_,b,h=> ⟨by simpa [Region.seqB] using b,h⟩
 | o::l,k,av,a,w,hl,b,h=>by
   have h0:ops[k]? =some o:=by simpa using (hl 0).symm
   simp only[List.length_cons,Region.seqB,Bool.and_eq_true,decide_eq_true_eq] at b;refine⟨fun h1=> (by rw[b.1] at h1;cases h1),fun i hi=> ?_⟩;rw[b.1] at hi;have Bp:i=k:=by simpa using hi
   subst Bp;have hw:wpOpIn (Fr r) 0 P ops Q' i (wpListIn (Fr r) 0 P ops Q' l) a w:=by unfold wpOpIn;simp only[h0];exact h
   exact wpOpIn_mono (fun a' w' c=>xB l (i+1) _ a' w' (fun j=>by have:=hl (j+1);simpa [Nat.add_assoc,Nat.add_comm 1 j] using this) b.2 c) hw
theorem jZ {id:Nat} {Q:Exit->Act->World->Prop} {a:Act} {w:World} {l:List Oper} (n:Nat) (hm:P.follows .mixedOrders=true) (hd:AH l.toArray=true) (f:Region.lexTailB .any l.toArray n=true)
  (h:wpStill P l.toArray {w with drawn:=w.drawn+1} (fun a'=>wpListIn (Fr r) 0 P l.toArray Q (l.drop n) a' {w with drawn:=w.drawn+1}) (l.take n) a): (Code.region id l.toArray true).wpIn (Fr r) 0 P Q a w:=by
 simp only[Region.lexTailB,Bool.and_eq_true,decide_eq_true_eq] at f;obtain⟨⟨⟨⟨c,hn⟩,hs⟩,hc⟩,d⟩:=f;have m:n<l.length:=by simpa using hn
 have b: (l.take n).length=n:=by simp;omega
 have Za: (l.drop n).length=l.toArray.size - n:=by simp
 have e:HeadInv .any l.toArray n (Array.replicate l.toArray.size false):=
  ⟨by simp,fun j p _ hl=> (by rw[getD_replicate_false] at hl;cases hl),fun t _ ht=>getD_in (by simpa using ht) (getD_replicate_false _ _)⟩
 have H:=wpAnyL_lex (md:= .any) (g:=l.toArray.size - n) c hs hc hn (l.take n) 0 _ a (fun j i=>by
  have o:j<n:=by rw[b] at i;exact i
  simp[o]) (by simpa using b) e (by rw[b];exact d) h
 refine wpIn_region_any hm ?_;have:=uJ (r:=r) hd (Q':=Q) (g:=l.toArray.size - n) (fun av a' k=>by have:=xB (r:=r) (md:= .any) (Q':=Q) (l.drop n) n av a' {w with drawn:=w.drawn+1} (fun j=>by simp[List.getElem?_drop]) (by rw[Za];exact k.1) k.2;rwa [Za] at this) _ _ _ H;rw[b,show n+(l.toArray.size - n)=l.toArray.size by omega] at this;exact this
end
end Go.AM
