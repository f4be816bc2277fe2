/-
  Texts of the proof: PTypI.
-/
import Derived.Test.YtjmcpijpclfakaaGreatEa
import Derived.Test.YtjmcpijpclfakaaGreatEb
import Derived.Test.YtjmcpijpclfakaaGreatEd
import Derived.Test.YtjmcpijpclfakaaGreatEe
import Derived.Test.YtjmcpijpclfakaaGreatA
set_option maxRecDepth 20000
set_option linter.unusedSimpArgs false
set_option linter.unusedVariables false
namespace Go.AM
theorem nS {op var:Int} {val:Va} {n:Nat} (h:eJ op var val n=true):
   (op=1∧n=0∧var=0)∨(op=2∧n=0∧val=aM)∨(op=3∧n=1∧var=0∧val=aM)∨((4≤op∧op≤12)∧n=2∧var=0∧val=aM)∨(op=13∧n=3∧var=0∧val=aM):=by
 simp only[eJ,Bool.and_eq_true,Bool.or_eq_true,decide_eq_true_eq,yD] at h
 obtain⟨⟨h1,h2⟩,h3⟩:=h
 unfold many at h1
 split at h1
 · rename_i e
   rcases e with rfl| rfl
   · exact .inl ⟨rfl,by omega,by rcases h3 with h| h;omega;exact h⟩
   · exact .inr (.inl ⟨rfl,by omega,by rcases h2 with h| h;omega;exact h⟩)
 split at h1
 · rename_i e1 e
   subst e
   exact .inr (.inr (.inl ⟨rfl,by omega,by rcases h3 with h| h;omega;exact h,by rcases h2 with h| h;omega;exact h⟩))
 split at h1
 · rename_i e1 e2 e
   subst e
   exact .inr (.inr (.inr (.inr ⟨rfl,by omega,by rcases h3 with h| h;omega;exact h,by rcases h2 with h| h;omega;exact h⟩)))
 split at h1
 · rename_i e1 e2 e3 e
   exact .inr (.inr (.inr (.inl ⟨e,by omega,by rcases h3 with h| h;omega;exact h,by rcases h2 with h| h;omega;exact h⟩)))
 · omega
theorem Hc: ∀ (k:Nat) (e:Ex),e.size≤k→k< 1000000→e.Fit→Ev E 383 [e.v] ⟨vi e.b4,[]⟩
 | 0,e,h,_,_=>by have:=e.size_pos;omega
 | k+1,.mk op var val nl l,h,hk,hf=>by
   have cJ:Ex.bK l≤k:=by simp only[Ex.size] at h;omega
   have ih: ∀x ∈ l,Ev E 383 [x.v] ⟨vi x.b4,[]⟩:=fun x hx=>Hc k x (Nat.le_trans (Ex.eU hx) cJ) (by omega) (hf.mem x hx)
   have hlen:=Ex.length_le l
   rw[Ex.pI]
   cases hh:eJ op var val l.length with
   | false=>
     simp only[jt,hh]
     exact KM op var val nl l (by omega) hh
   | true=>
     simp only[jt,hh,if_true]
     rcases nS hh with⟨rfl,hl,rfl⟩ | ⟨rfl,hl,rfl⟩ | ⟨rfl,hl,rfl,rfl⟩ | ⟨ho,hl,rfl,rfl⟩ | ⟨rfl,hl,rfl,rfl⟩
     · obtain rfl:=List.eq_nil_of_length_eq_zero hl
       exact FI val nl hf.val
     · obtain rfl:=List.eq_nil_of_length_eq_zero hl
       exact KN var nl
     · match l,hl,ih with
       | [x],_,ih=>exact Z1 (ih x (by simp)) rfl nl
     · rw[if_neg (by omega),if_neg (by omega)]
       match l,hl,ih with
       | [x,y],_,ih=>exact ZZ (ih x (by simp)) (ih y (by simp)) ho nl
     · match l,hl,ih with
       | [x,y,z],_,ih=>exact Z2 (ih x (by simp)) (ih y (by simp)) (ih z (by simp)) rfl nl
theorem Hd: ∀ (k:Nat) (e:Ex),e.size≤k→k< 1000000→e.Fit→Ev E 371 [e.v] ⟨vi e.b4,[]⟩
 | 0,e,h,_,_=>by have:=e.size_pos;omega
 | k+1,.mk op var val nl l,h,hk,hf=>by
   have cJ:Ex.bK l≤k:=by simp only[Ex.size] at h;omega
   have ih: ∀x ∈ l,Ev E 371 [x.v] ⟨vi x.b4,[]⟩:=fun x hx=>Hd k x (Nat.le_trans (Ex.eU hx) cJ) (by omega) (hf.mem x hx)
   have hlen:=Ex.length_le l
   rw[Ex.pI]
   cases hh:eJ op var val l.length with
   | false=>
     simp only[jt,hh]
     exact KQ op var val nl l (by omega) hh
   | true=>
     simp only[jt,hh,if_true]
     rcases nS hh with⟨rfl,hl,rfl⟩ | ⟨rfl,hl,rfl⟩ | ⟨rfl,hl,rfl,rfl⟩ | ⟨ho,hl,rfl,rfl⟩ | ⟨rfl,hl,rfl,rfl⟩
     · obtain rfl:=List.eq_nil_of_length_eq_zero hl
       exact FJ val nl hf.val
     · obtain rfl:=List.eq_nil_of_length_eq_zero hl
       exact KS var nl
     · match l,hl,ih with
       | [x],_,ih=>exact Z3 (ih x (by simp)) rfl nl
     · rw[if_neg (by omega),if_neg (by omega)]
       match l,hl,ih with
       | [x,y],_,ih=>exact Z4 (ih x (by simp)) (ih y (by simp)) ho nl
     · match l,hl,ih with
       | [x,y,z],_,ih=>exact Z5 (ih x (by simp)) (ih y (by simp)) (ih z (by simp)) rfl nl
def Ex.err (e:Ex):Int:=if 60 <e.size then 2 else if e.b4=0 then 30 else 0
def Ex.ty (e:Ex):Int:=if 60 <e.size then 0 else e.b4
theorem vF (e:Ex) (h:e.size< 1000000) (hf:e.Fit):Ev E 341 [e.v] ⟨.tuple [vi e.ty,vi e.err],[]⟩:=by
 have hs:=Dj _ e (Nat.le_refl _) h
 have ht:=Hc _ e (Nat.le_refl _) h hf
 unfold Ex.ty Ex.err
 generalize e.size=sz at*
 generalize e.b4=ty at*
 obtain⟨a,b,c,d,e',f,L,hv,hL,hp⟩:=e.db
 rw[hv] at hs ht ⊢
 have DE:aD E 382=[]:=rfl
 have cm:aD E 383=[]:=rfl
 refine Ev.aG Z6 (Z7 _) rfl ?_
 (conv=>whnf);repeat' ((first| intro g| refine aq (by assumption) (by first| assumption| rfl| (simp only[V.ae,V.aj,Bool.and_self,Bool.true_and,Bool.and_true, *])) (hs) rfl ?_| refine aq (by assumption) (by first| assumption| rfl| (simp only[V.ae,V.aj,Bool.and_self,Bool.true_and,Bool.and_true, *])) (ht) rfl ?_| refine st ?_| (first| refine b1 ?_ ?_| refine b2 ?_ ?_| refine Br.mk ?_ ?_) <;>intro hc| exact rfl) <;>conv=>whnf)
 all_goals simp[*] <;>omega
theorem kS (e:Ex) (h:e.size< 1000000) (hf:e.Fit):Ev E 338 [e.v] ⟨.tuple [vi e.ty,vi e.err],[]⟩:=by
 have hs:=Dk _ e (Nat.le_refl _) h
 have ht:=Hd _ e (Nat.le_refl _) h hf
 unfold Ex.ty Ex.err
 generalize e.size=sz at*
 generalize e.b4=ty at*
 obtain⟨a,b,c,d,e',f,L,hv,hL,hp⟩:=e.db
 rw[hv] at hs ht ⊢
 have DE:aD E 370=[]:=rfl
 have cm:aD E 371=[]:=rfl
 refine Ev.aG Z8 (Z9 _) rfl ?_
 (conv=>whnf);repeat' ((first| intro g| refine aq (by assumption) (by first| assumption| rfl| (simp only[V.ae,V.aj,Bool.and_self,Bool.true_and,Bool.and_true, *])) (hs) rfl ?_| refine aq (by assumption) (by first| assumption| rfl| (simp only[V.ae,V.aj,Bool.and_self,Bool.true_and,Bool.and_true, *])) (ht) rfl ?_| refine st ?_| (first| refine b1 ?_ ?_| refine b2 ?_ ?_| refine Br.mk ?_ ?_) <;>intro hc| exact rfl) <;>conv=>whnf)
 all_goals simp[*] <;>omega
end Go.AM
