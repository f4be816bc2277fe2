/-
  Texts of the proof, joined by program: AmWp, AmSim, AmSortL, AmTab, AmHyb, AmOth, AmS, AmS2, AmS3, AmS4, AmS5, AmMemo. Own work.
-/
import Derived.Test.YtkdfnbahehdhmaaGreatDefs
import Derived.Attr
set_option linter.unusedSimpArgs false
set_option linter.unusedVariables false
namespace Go.AM
def FV (C C':bj):Prop:= ∀f as r,C f as=some r→C' f as=some r
theorem Act.iN {C C':bj} (h:FV C C'): ∀ (a:Act) (σ:St) (r:V×St),a.run C σ=some r→a.run C' σ=some r
 | .done v,σ,r,e=>by simpa [Act.run] using e
 | .fail,σ,r,e=>by simp[Act.run] at e
 | .mL t k,σ,r,e=>by simp only[Act.run] at e ⊢;exact Act.iN h _ _ _ e
 | .bV t k,σ,r,e=>by simp only[Act.run] at e ⊢;exact Act.iN h _ _ _ e
 | .bI t o k,σ,r,e=>by simp only[Act.run] at e ⊢;exact Act.iN h _ _ _ e
 | .call f as k,σ,r,e=>by
   simp only[Act.run] at e ⊢
   split at e
   · rename_i res mS
     rw[h f as res mS]
     exact Act.iN h _ _ _ e
   · simp at e
theorem Act.ia {C C':bj} (h:FV C C'): ∀ (a:Act) (σ:St) (r:V×St),a.run C σ=some r→a.dW C' σ=a.dW C σ
 | .done v,σ,r,e=>by simp[Act.dW]
 | .fail,σ,r,e=>by simp[Act.run] at e
 | .mL t k,σ,r,e=>by simp only[Act.run] at e;simp only[Act.dW];rw[Act.ia h _ _ _ e]
 | .bV t k,σ,r,e=>by simp only[Act.run] at e;simp only[Act.dW];rw[Act.ia h _ _ _ e]
 | .bI t o k,σ,r,e=>by simp only[Act.run] at e;simp only[Act.dW];rw[Act.ia h _ _ _ e]
 | .call f as k,σ,r,e=>by
   simp only[Act.run] at e
   simp only[Act.dW]
   split at e
   · rename_i res mS
     rw[h f as res mS]
     simp only
     exact Act.ia h _ _ _ e
   · simp at e
theorem ug {E:Env} {C C':bj} (h:FV C C') {o:bD} {σ σ':St} (e:eM E C o σ=some σ'):eM E C' o σ=some σ':=by
 unfold eM at e ⊢
 split at e
 · rename_i v σ1 hr
   rw[Act.iN h _ _ _ hr];exact e
 · simp at e
theorem mT {E:Env} {C C':bj} (h:FV C C'): ∀ {os:List bD} {σ σ':St},iX E C os σ=some σ'→iX E C' os σ=some σ'
 | [],_,_,e=>by simpa [iX] using e
 | o::os,_,_,e=>by
   simp only[iX] at e ⊢
   split at e
   · rename_i σ1 h1
     rw[ug h h1]
     exact mT h e
   · simp at e
theorem v7 {E:Env} {C C':bj} (h:FV C C') {o:bD} {σ σ':St} (e:eM E C o σ=some σ'):cS E C' o σ=cS E C o σ:=by
 unfold eM at e
 split at e
 · rename_i v σ1 hr
   simp only[cS,Act.ia h _ _ _ hr]
 · simp at e
theorem kD {E:Env} {C C':bj} (h:FV C C'): ∀ {os:List bD} {bY:List eD} {before:List (List Nat)} {σ σ':St},dP E C os bY before σ=some σ'→dP E C' os bY before σ=some σ'
 | [],_,_,_,_,e=>by simpa [dP] using e
 | o::os,bY,before,σ,_,e=>by
   simp only[dP] at e ⊢
   split at e
   · rename_i hc
     split at e
     · rename_i σ1 h1
       rw[v7 h h1,ug h h1,if_pos hc]
       exact kD h e
     · simp at e
   · simp at e
def MV (r r':al→St→Option (bd×St)):Prop:= ∀c σ x,r c σ=some x→r' c σ=some x
theorem sy {E:Env} {r r':al→St→Option (bd×St)} (h:MV r r'):FV (kE E r) (kE E r'):=by
 intro f as res e
 unfold kE at e ⊢
 split at e
 · exact e
 · split at e
   · split at e
     · rename_i hl
       rw[if_pos hl]
       split at e
       · split at e
         · rename_i σ hx;rw[h _ _ _ hx];exact e
         · rename_i σ hx;rw[h _ _ _ hx];exact e
         · simp at e
       · split at e
         · rename_i hp
           rw[if_pos hp]
           split at e
           · rename_i σ hx;rw[h _ _ _ hx];exact e
           · rename_i σ hx;rw[h _ _ _ hx];exact e
           · simp at e
         · simp at e
     · simp at e
   · simp at e
theorem iC {E:Env} {r r':al→St→Option (bd×St)} (h:MV r r'):FV (dm E r) (dm E r'):=by
 intro f as res e
 unfold dm at e ⊢
 split at e
 · rename_i g hg
   exact E.mono f g hg _ _ (sy h) _ _ e
 · exact sy h _ _ _ e
theorem oI {E:Env} {C C':bj} (hC:FV C C') {r r':al→St→Option (bd×St)} (h:MV r r'):MV (aJ E C r) (aJ E C' r'):=by
 intro c σ x e
 cases c with
 | skip=>simpa [aJ] using e
 | region ops=>
   simp only[aJ,Option.map_eq_some_iff] at e ⊢
   obtain⟨σ1,h1,h2⟩:=e
   exact⟨σ1,mT hC h1,h2⟩
 | drawn ops=>
   simp only[aJ,Option.map_eq_some_iff] at e ⊢
   obtain⟨σ1,h1,h2⟩:=e
   exact⟨σ1,kD hC h1,h2⟩
 | seq a b=>
   simp only[aJ] at e ⊢
   split at e
   · rename_i σ1 h1;rw[h _ _ _ h1];exact h _ _ _ e
   · rename_i hn
     rw[h _ _ _ e]
     rcases x with⟨ex,σ1⟩
     cases ex with
     | normal=>exact absurd e (by simpa using hn σ1)
     | _=>rfl
 | cond c a b=>
   simp only[aJ] at e ⊢
   split at e
   · exact h _ _ _ e
   · exact h _ _ _ e
   · simp at e
 | block id b=>
   simp only[aJ] at e ⊢
   split at e
   · rename_i ka σ1 h1;rw[h _ _ _ h1];exact e
   · rename_i hn
     rw[h _ _ _ e]
     rcases x with⟨ex,σ1⟩
     cases ex with
     | exit ka=>exact absurd e (by simpa using hn ka σ1)
     | _=>rfl
 | loop b=>
   simp only[aJ] at e ⊢
   split at e
   · rename_i σ1 h1;rw[h _ _ _ h1];exact h _ _ _ e
   · rename_i hn
     rw[h _ _ _ e]
     rcases x with⟨ex,σ1⟩
     cases ex with
     | normal=>exact absurd e (by simpa using hn σ1)
     | _=>rfl
 | exit id=>simpa [aJ] using e
 | ret=>simpa [aJ] using e
 | scope b=>simp only[aJ] at e ⊢;exact h _ _ _ e
 | bad=>simp[aJ] at e
 | kF fx ps a b=>
   simp only[aJ] at e ⊢
   split at e
   · rename_i g caps hg
     try simp only[hg]
     split at e
     · rename_i xs CI
       try simp only[CI]
       split at e
       · rename_i hc
         try rw[if_pos hc]
         exact rD h e
       · simp at e
     · simp at e
   · simp at e
 | keys it nx ne id kT kO hd b l=>
   simp only[aJ] at e ⊢
   split at e
   · rename_i ri g hT
     try simp only[hT]
     split at e
     · rename_i es hO
       try simp only[hO]
       split at e
       · rename_i hc
         try rw[if_pos hc]
         split at e
         · rename_i σ1 σs hr
           rw[lI (fun p y hy=>nU h hy) hr]
           exact e
         · simp at e
       · simp at e
     · simp at e
   · simp at e
theorem wE {E:Env}: ∀n,MV (exec E n) (exec E (n+1))
 | 0=>by intro c σ x e;simp[exec] at e
 | n+1=>by
   have ih:=wE (E:=E) n
   have:=oI (E:=E) (iC (E:=E) ih) ih
   intro c σ x e
   simp only[exec] at e ⊢
   exact this _ _ _ e
theorem cB {E:Env} {n m:Nat} (h:n≤m):MV (exec E n) (exec E m):=by
 induction h with
 | refl=>exact fun _ _ _ e=>e
 | step _ ih=>exact fun c σ x e=>wE _ _ _ _ (ih c σ x e)
theorem eh {E:Env} {n m:Nat} (h:n≤m):FV (call E n) (call E m):=iC (cB h)
def Ev (E:Env) (f:Nat) (args:List V) (res:fL):Prop:= ∃n,call E n f args=some res
def St.bI (σ:St) (r:Nat) (o:Obj):St:={σ with O:=dn σ.O r o}
inductive Tg {α β:Type} (a:α) (b:β):Type
 | mk
def rE (E:Env) (a:Act) (σ:St) (Q:V→St→Prop) (_:Tg σ Q:= .mk):Prop:= ∃n v σ',a.run (call E n) σ=some (v,σ')∧Q v σ'
def I5 (E:Env) (os:List bD) (σ:St) (Q:St→Prop) (_:Tg os (σ,Q):= .mk):Prop:= ∃n σ',iX E (call E n) os σ=some σ'∧Q σ'
def mM (E:Env) (c:al) (σ:St) (Q:bd→St→Prop) (_:Tg c (σ,Q):= .mk):Prop:= ∃n e σ',exec E n c σ=some (e,σ')∧Q e σ'
def pY (E:Env) (a:Act) (σ:St) (Q:V→St→List Loc→List Loc→Prop) (_:Tg σ Q:= .mk):Prop:= ∃n v σ',a.run (call E n) σ=some (v,σ')∧Q v σ' (a.dW (call E n) σ).reads (a.dW (call E n) σ).writes
def Lo (E:Env) (bY:List eD) (before:List (List Nat)) (os:List bD) (σ:St) (Q:St→Prop):Prop:= ∃n σ',dP E (call E n) os bY before σ=some σ'∧Q σ'
section
variable {E:Env} {σ:St}
theorem mU {v:V} {Q:V→St→Prop}:rE E (.done v) σ Q=Q v σ:=by
 simp only[rE,Act.run,eq_iff_iff]
 constructor
 · rintro⟨_,_,_,h,q⟩;injection h with h;injection h with h1 h2;subst h1 h2;exact q
 · exact fun q=> ⟨0,_,_,rfl,q⟩
theorem p9 {Q:V→St→Prop}:rE E .fail σ Q=False:=by
 simp[rE,Act.run]
theorem uh {t:Nat} {k:V→Act} {Q:V→St→Prop}:rE E (.mL t k) σ Q=rE E (k (σ.T t)) σ Q:=by
 simp[rE,Act.run]
theorem kR {t:Nat} {k:Obj→Act} {Q:V→St→Prop}:rE E (.bV t k) σ Q=rE E (k (σ.O t)) σ Q:=by
 simp[rE,Act.run]
theorem mV {t:Nat} {o:Obj} {k:Act} {Q:V→St→Prop}:rE E (.bI t o k) σ Q=rE E k (σ.bI t o) Q:=by
 simp[rE,Act.run,St.bI]
theorem xG {c:Prop} [Decidable c] {a b:Act} {Q:V→St→Prop}:rE E (if c then a else b) σ Q=if c then rE E a σ Q else rE E b σ Q:=by
 split<;>rfl
theorem ui {v:Option V} {Q:V→St→Prop}:rE E (cT v) σ Q=match v with| some v=>Q v σ| none=>False:=by
 cases v<;>simp[cT,mU,p9]
theorem tO {Q:St→Prop}:I5 E [] σ Q=Q σ:=by simp[I5,iX]
theorem qa {o:bD} {os:List bD} {Q:St→Prop}:I5 E (o::os) σ Q=rE E (dM E o) σ fun v σ'=>I5 E os (σ'.put o.dst v) Q:=by
 simp only[I5,rE,iX,eM,eq_iff_iff]
 constructor
 · rintro⟨n,σ2,h,q⟩
   split at h
   · rename_i σ1 h1
     split at h1
     · rename_i v σ0 h0
       injection h1 with h1;subst h1
       exact⟨n,v,σ0,h0,n,σ2,h,q⟩
     · simp at h1
   · simp at h
 · rintro⟨n,v,σ0,h0,m,σ2,h,q⟩
   refine⟨max n m,σ2,?_,q⟩
   rw[Act.iN (eh (Nat.le_max_left n m)) _ _ _ h0]
   exact mT (eh (Nat.le_max_right n m)) h
theorem kS {v:V} {Q:V→St→List Loc→List Loc→Prop}:pY E (.done v) σ Q=Q v σ [] []:=by
 simp only[pY,Act.run,Act.dW,eq_iff_iff]
 constructor
 · rintro⟨_,_,_,h,q⟩;injection h with h;injection h with h1 h2;subst h1 h2;exact q
 · exact fun q=> ⟨0,_,_,rfl,q⟩
theorem qb {Q:V→St→List Loc→List Loc→Prop}:pY E .fail σ Q=False:=by
 simp[pY,Act.run]
theorem qc {t:Nat} {k:V→Act} {Q:V→St→List Loc→List Loc→Prop}:pY E (.mL t k) σ Q=pY E (k (σ.T t)) σ fun v σ' r w=>Q v σ' (.t t::r) w:=by
 simp[pY,Act.run,Act.dW]
theorem mW {t:Nat} {k:Obj→Act} {Q:V→St→List Loc→List Loc→Prop}:pY E (.bV t k) σ Q=pY E (k (σ.O t)) σ fun v σ' r w=>Q v σ' (.o t::r) w:=by
 simp[pY,Act.run,Act.dW]
theorem qd {t:Nat} {o:Obj} {k:Act} {Q:V→St→List Loc→List Loc→Prop}:pY E (.bI t o k) σ Q=pY E k (σ.bI t o) fun v σ' r w=>Q v σ' r (.o t::w):=by
 simp[pY,Act.run,Act.dW,St.bI]
theorem FW {f:Nat} {as:List V} {k:fL→Act} {Q:V→St→List Loc→List Loc→Prop}:pY E (.call f as k) σ Q= ∃res,Ev E f as res∧pY E (k res) σ Q:=by
 simp only[pY,eq_iff_iff]
 constructor
 · rintro⟨n,v,σ',h,q⟩
   simp only[Act.run,Act.dW] at h q
   split at h
   · rename_i res hr
     simp only[hr] at q
     exact⟨res,⟨n,hr⟩,n,v,σ',h,q⟩
   · simp at h
 · rintro⟨res,⟨n,hn⟩,m,v,σ',h,q⟩
   have e1:=eh (E:=E) (Nat.le_max_left n m) _ _ _ hn
   have e2:=Act.iN (eh (E:=E) (Nat.le_max_right n m)) _ _ _ h
   have e3:=Act.ia (eh (E:=E) (Nat.le_max_right n m)) _ _ _ h
   refine⟨max n m,v,σ',?_,?_⟩
   · simp only[Act.run,e1];exact e2
   · simp only[Act.dW,e1,e3];exact q
theorem xH {c:Prop} [Decidable c] {a b:Act} {Q:V→St→List Loc→List Loc→Prop}:pY E (if c then a else b) σ Q=if c then pY E a σ Q else pY E b σ Q:=by
 split<;>rfl
theorem uj {v:Option V} {Q:V→St→List Loc→List Loc→Prop}:pY E (cT v) σ Q=match v with| some v=>Q v σ [] [] | none=>False:=by
 cases v<;>simp[cT,kS,qb]
theorem I6 {bY:List eD} {before:List (List Nat)} {Q:St→Prop}:Lo E bY before [] σ Q=Q σ:=by simp[Lo,dP]
theorem FX {bY:List eD} {before:List (List Nat)} {o:bD} {os:List bD} {Q:St→Prop}:
   Lo E bY before (o::os) σ Q=pY E (dM E o) σ fun v σ' r w=>
     (fits bY (closure before o.pre) ⟨r,(match o.dst with| some d=> [.t d] | none=> [])++w⟩ bY.length &&o.pre.all (· <bY.length))=true∧
     Lo E (bY++[⟨r,(match o.dst with| some d=> [.t d] | none=> [])++w⟩]) (before++[closure before o.pre]) os (σ'.put o.dst v) Q:=by
 have key: ∀n,dP E (call E n) (o::os) bY before σ=if (fits bY (closure before o.pre) (cS E (call E n) o σ) bY.length &&o.pre.all (· <bY.length))=true then
     (match eM E (call E n) o σ with| some σ'=>dP E (call E n) os (bY++[cS E (call E n) o σ]) (before++[closure before o.pre]) σ'| none=>none) else none:=fun n=>rfl
 have Tk: ∀n v σ0,(dM E o).run (call E n) σ=some (v,σ0)→eM E (call E n) o σ=some (σ0.put o.dst v):=fun n v σ0 h=>by simp only[eM,h]
 simp only[Lo,pY,eq_iff_iff]
 constructor
 · rintro⟨n,σ2,h,q⟩
   rw[key n] at h
   by_cases hc: (fits bY (closure before o.pre) (cS E (call E n) o σ) bY.length &&o.pre.all (· <bY.length))=true
   · rw[if_pos hc] at h
     cases h0: (dM E o).run (call E n) σ with
     | none=>simp[eM,h0] at h
     | some p=>
       obtain⟨v,σ0⟩:=p
       rw[Tk n v σ0 h0] at h
       exact⟨n,v,σ0,h0,hc,n,σ2,h,q⟩
   · rw[if_neg hc] at h;simp at h
 · rintro⟨n,v,σ0,h0,hc,m,σ2,h,q⟩
   refine⟨max n m,σ2,?_,q⟩
   have e3:cS E (call E (max n m)) o σ=cS E (call E n) o σ:=by
     simp only[cS,Act.ia (eh (E:=E) (Nat.le_max_left n m)) _ _ _ h0]
   have A4: (fits bY (closure before o.pre) (cS E (call E n) o σ) bY.length &&o.pre.all (· <bY.length))=true:=hc
   rw[key,e3,if_pos A4,Tk _ v σ0 (Act.iN (eh (Nat.le_max_left n m)) _ _ _ h0)]
   exact kD (eh (Nat.le_max_right n m)) h
def andThen (Q:bd→St→Prop) (k:St→Prop) (_:Tg Q k:= .mk):bd→St→Prop
 | .normal,σ=>k σ
 | .exit id,σ=>Q (.exit id) σ
 | .ret,σ=>Q .ret σ
def uk (id:Nat) (Q:bd→St→Prop) (_:Tg id Q:= .mk):bd→St→Prop
 | .exit ka,σ=>if ka=id then Q .normal σ else Q (.exit ka) σ
 | .normal,σ=>Q .normal σ
 | .ret,σ=>Q .ret σ
theorem iO {c:al} {Q Q':bd→St→Prop} (h:mM E c σ Q) (k: ∀e σ',Q e σ'→Q' e σ'):mM E c σ Q':=by
 obtain⟨n,e,σ',h1,h2⟩:=h
 exact⟨n,e,σ',h1,k _ _ h2⟩
theorem qe {Q:bd→St→Prop}:mM E .skip σ Q=Q .normal σ:=by
 simp only[mM,eq_iff_iff]
 constructor
 · rintro⟨n,e,σ',h,q⟩
   cases n<;>simp[exec,aJ] at h
   obtain⟨rfl,rfl⟩:=h;exact q
 · exact fun q=> ⟨1,_,_,by simp[exec,aJ],q⟩
theorem qf {id:Nat} {Q:bd→St→Prop}:mM E (.exit id) σ Q=Q (.exit id) σ:=by
 simp only[mM,eq_iff_iff]
 constructor
 · rintro⟨n,e,σ',h,q⟩
   cases n<;>simp[exec,aJ] at h
   obtain⟨rfl,rfl⟩:=h;exact q
 · exact fun q=> ⟨1,_,_,by simp[exec,aJ],q⟩
theorem tP {Q:bd→St→Prop}:mM E .ret σ Q=Q .ret σ:=by
 simp only[mM,eq_iff_iff]
 constructor
 · rintro⟨n,e,σ',h,q⟩
   cases n<;>simp[exec,aJ] at h
   obtain⟨rfl,rfl⟩:=h;exact q
 · exact fun q=> ⟨1,_,_,by simp[exec,aJ],q⟩
theorem nV {b:al} {Q:bd→St→Prop}:mM E (.scope b) σ Q=mM E b σ Q:=by
 simp only[mM,eq_iff_iff]
 constructor
 · rintro⟨n,e,σ',h,q⟩
   cases n with
   | zero=>simp[exec] at h
   | succ n=>simp only[exec,aJ] at h;exact⟨n,e,σ',h,q⟩
 · rintro⟨n,e,σ',h,q⟩
   exact⟨n+1,e,σ',by simpa only[exec,aJ] using h,q⟩
theorem lJ {ops:List bD} {Q:bd→St→Prop}:mM E (.region ops) σ Q=I5 E ops σ (Q .normal):=by
 simp only[mM,I5,eq_iff_iff]
 constructor
 · rintro⟨n,e,σ',h,q⟩
   cases n with
   | zero=>simp[exec] at h
   | succ n=>
     simp only[exec,aJ,Option.map_eq_some_iff] at h
     obtain⟨σ1,h1,h2⟩:=h
     injection h2 with h2 h3
     subst h2 h3
     exact⟨n,_,h1,q⟩
 · rintro⟨n,σ',h,q⟩
   exact⟨n+1,_,σ',by simp only[exec,aJ,Option.map_eq_some_iff];exact⟨σ',h,rfl⟩,q⟩
theorem DS {ops:List bD} {Q:bd→St→Prop}:mM E (.drawn ops) σ Q=Lo E [] [] ops σ (Q .normal):=by
 simp only[mM,Lo,eq_iff_iff]
 constructor
 · rintro⟨n,e,σ',h,q⟩
   cases n with
   | zero=>simp[exec] at h
   | succ n=>
     simp only[exec,aJ,Option.map_eq_some_iff] at h
     obtain⟨σ1,h1,h2⟩:=h
     injection h2 with h2 h3
     subst h2 h3
     exact⟨n,_,h1,q⟩
 · rintro⟨n,σ',h,q⟩
   exact⟨n+1,_,σ',by simp only[exec,aJ,Option.map_eq_some_iff];exact⟨σ',h,rfl⟩,q⟩
theorem tQ {a b:al} {Q:bd→St→Prop}:mM E (.seq a b) σ Q=mM E a σ (andThen Q fun σ'=>mM E b σ' Q):=by
 simp only[mM,eq_iff_iff]
 constructor
 · rintro⟨n,e,σ',h,q⟩
   cases n with
   | zero=>simp[exec] at h
   | succ n=>
     simp only[exec,aJ] at h
     split at h
     · rename_i σ1 h1
       exact⟨n,_,_,h1,n,e,σ',h,q⟩
     · rename_i hn
       refine⟨n,e,σ',h,?_⟩
       cases e with
       | normal=>exact absurd h (by simpa using hn σ')
       | exit id=>exact q
       | ret=>exact q
 · rintro⟨n,e,σ1,h,q⟩
   cases e with
   | normal=>
     obtain⟨m,e,σ',h',q⟩:=q
     refine⟨max n m+1,e,σ',?_,q⟩
     simp only[exec,aJ,cB (Nat.le_max_left n m) _ _ _ h]
     exact cB (Nat.le_max_right n m) _ _ _ h'
   | exit id=>exact⟨n+1,_,_,by simp only[exec,aJ,h],q⟩
   | ret=>exact⟨n+1,_,_,by simp only[exec,aJ,h],q⟩
theorem qg {c:aW} {a b:al} {Q:bd→St→Prop}:mM E (.cond c a b) σ Q=match bo σ c with| .bool true=>mM E a σ Q| .bool false=>mM E b σ Q| _=>False:=by
 simp only[mM,eq_iff_iff]
 constructor
 · rintro⟨n,e,σ',h,q⟩
   cases n with
   | zero=>simp[exec] at h
   | succ n=>
     simp only[exec,aJ] at h
     split at h
     · rename_i he;simp only[he];exact⟨n,e,σ',h,q⟩
     · rename_i he;simp only[he];exact⟨n,e,σ',h,q⟩
     · simp at h
 · intro h
   split at h
   · rename_i he
     obtain⟨n,e,σ',h,q⟩:=h
     exact⟨n+1,e,σ',by simp only[exec,aJ,he];exact h,q⟩
   · rename_i he
     obtain⟨n,e,σ',h,q⟩:=h
     exact⟨n+1,e,σ',by simp only[exec,aJ,he];exact h,q⟩
   · exact h.elim
theorem nW {id:Nat} {b:al} {Q:bd→St→Prop}:mM E (.block id b) σ Q=mM E b σ (uk id Q):=by
 simp only[mM,eq_iff_iff]
 constructor
 · rintro⟨n,e,σ',h,q⟩
   cases n with
   | zero=>simp[exec] at h
   | succ n=>
     simp only[exec,aJ] at h
     split at h
     · rename_i ka σ1 h1
       refine⟨n,_,_,h1,?_⟩
       simp only[uk]
       split at h
       · rename_i hi
         simp only[Option.some.injEq,Prod.mk.injEq] at h
         obtain⟨rfl,rfl⟩:=h
         simp only[hi,if_true];exact q
       · rename_i hi
         simp only[Option.some.injEq,Prod.mk.injEq] at h
         obtain⟨rfl,rfl⟩:=h
         simp only[hi,if_false];exact q
     · rename_i hn
       refine⟨n,e,σ',h,?_⟩
       cases e with
       | exit ka=>exact absurd h (by simpa using hn ka σ')
       | normal=>exact q
       | ret=>exact q
 · rintro⟨n,e,σ1,h,q⟩
   cases e with
   | exit ka=>
     simp only[uk] at q
     by_cases hi:ka=id
     · simp only[hi,if_true] at q
       exact⟨n+1,_,_,by simp only[exec,aJ,h,hi,if_true],q⟩
     · simp only[hi,if_false] at q
       exact⟨n+1,_,_,by simp only[exec,aJ,h,hi,if_false],q⟩
   | normal=>exact⟨n+1,_,_,by simp only[exec,aJ,h],q⟩
   | ret=>exact⟨n+1,_,_,by simp only[exec,aJ,h],q⟩
theorem FY {b:al} {Q:bd→St→Prop}:mM E (.loop b) σ Q=mM E b σ (andThen Q fun σ'=>mM E (.loop b) σ' Q):=by
 simp only[mM,eq_iff_iff]
 constructor
 · rintro⟨n,e,σ',h,q⟩
   cases n with
   | zero=>simp[exec] at h
   | succ n=>
     simp only[exec,aJ] at h
     split at h
     · rename_i σ1 h1
       exact⟨n,_,_,h1,n,e,σ',h,q⟩
     · rename_i hn
       refine⟨n,e,σ',h,?_⟩
       cases e with
       | normal=>exact absurd h (by simpa using hn σ')
       | exit id=>exact q
       | ret=>exact q
 · rintro⟨n,e,σ1,h,q⟩
   cases e with
   | normal=>
     obtain⟨m,e,σ',h',q⟩:=q
     refine⟨max n m+1,e,σ',?_,q⟩
     simp only[exec,aJ,cB (Nat.le_max_left n m) _ _ _ h]
     exact cB (Nat.le_max_right n m) _ _ _ h'
   | exit id=>exact⟨n+1,_,_,by simp only[exec,aJ,h],q⟩
   | ret=>exact⟨n+1,_,_,by simp only[exec,aJ,h],q⟩
theorem y0 {b:al} {Q:bd→St→Prop} (I:Nat→St→Prop) (hI: ∀k σ,I k σ→mM E b σ (andThen Q fun σ'=> ∃j,j<k∧I j σ')):
   ∀ (k:Nat) (σ:St),I k σ→mM E (.loop b) σ Q:=by
 intro k
 induction k using Nat.strongRecOn with
 | _ k ih=>
   intro σ h
   rw[FY]
   refine iO (hI k σ h) fun e σ' he=> ?_
   cases e with
   | normal=>obtain⟨j,hj,h'⟩:=he;exact ih j hj σ' h'
   | exit id=>exact he
   | ret=>exact he
def fin (rs:List qh) (args:List V) (res:fL):bd→St→Prop
 | .exit _,_=>False
 | .normal,σ=>leave ⟨0,0,[],rs,.skip,none⟩ args σ=some res
 | .ret,σ=>leave ⟨0,0,[],rs,.skip,none⟩ args σ=some res
theorem Ev.ext {f:Nat} {args:List V} {res:fL} (h:E.ext f args=some res) (hh:E.hyb f=none:=by rfl):Ev E f args res:=⟨0,by simp[call,dm,kE,h,hh]⟩
end
end Go.AM
namespace Go.AM
section
variable {E:Env} {σ:St}
def rF (E:Env):List bD→St→(List eD→St→Prop)→Prop
 | [],σ,Q=>Q [] σ
 | o::os,σ,Q=>pY E (dM E o) σ fun v σ' r w=>rF E os (σ'.put o.dst v) fun fs σ''=>Q (⟨r,(match o.dst with| some d=> [.t d] | none=> [])++w⟩::fs) σ''
def Tl (E:Env) (os:List bD) (σ:St) (Q:List eD→St→Prop) (_:Tg os (σ,Q):= .mk):Prop:=rF E os σ Q
def rG (d:Option Nat) (w:List Loc):List Loc:=match d with| some d=> .t d::w| none=>w
theorem tT {Q:List eD→St→Prop}:Tl E [] σ Q=Q [] σ:=rfl
theorem qi {o:bD} {os:List bD} {Q:List eD→St→Prop}:Tl E (o::os) σ Q=pY E (dM E o) σ fun v σ' r w=>Tl E os (σ'.put o.dst v) fun fs σ''=>Q (⟨r,rG o.dst w⟩::fs) σ'':=by
 have: ∀w,(match o.dst with| some d=> [Loc.t d] | none=> [])++w=rG o.dst w:=by intro w;cases o.dst<;>rfl
 have h2: (fun (v:V) (σ':St) (r w:List Loc)=>rF E os (σ'.put o.dst v) fun fs σ''=>Q (⟨r,(match o.dst with| some d=> [.t d] | none=> [])++w⟩::fs) σ'')=(fun v σ' r w=>rF E os (σ'.put o.dst v) fun fs σ''=>Q (⟨r,rG o.dst w⟩::fs) σ''):=by
  funext v σ' r w;rw[this]
 show pY E (dM E o) σ (fun (v:V) (σ':St) (r w:List Loc)=>rF E os (σ'.put o.dst v) fun fs σ''=>Q (⟨r,(match o.dst with| some d=> [.t d] | none=> [])++w⟩::fs) σ'')=_
 rw[h2];rfl
def Lp:List (List Nat)→List (List Nat)→List eD→List eD→Bool
 | [],_,_,_=>true
 | p::ps,before,bY,f::rest=> (fits bY (closure before p) f bY.length &&p.all (· <bY.length)) &&Lp ps (before++[closure before p]) (bY++[f]) rest
 | _::_,_,_,[]=>false
theorem mX {a:Act} {Q Q':V→St→List Loc→List Loc→Prop} (h:pY E a σ Q) (k: ∀v σ' r w,Q v σ' r w→Q' v σ' r w):pY E a σ Q':=by
 obtain⟨n,v,σ',h1,h2⟩:=h
 exact⟨n,v,σ',h1,k _ _ _ _ h2⟩
theorem qj: ∀ {os:List bD} {σ:St} {Q Q':List eD→St→Prop},rF E os σ Q→(∀fs σ',Q fs σ'→Q' fs σ')→rF E os σ Q'
 | [],_,_,_,h,k=>k _ _ h
 | o::os,_,_,_,h,k=>by
   simp only[rF] at h ⊢
   exact mX h fun v σ' r w h'=>qj h' fun fs σ'' h''=>k _ _ h''
theorem FZ {Q:St→Prop}: ∀ {os:List bD} {σ:St} {bY:List eD} {before:List (List Nat)},
   rF E os σ (fun fs σ'=>Lp (os.map (·.pre)) before bY fs=true∧Q σ')→Lo E bY before os σ Q
 | [],_,_,_,h=>by rw[I6];exact h.2
 | o::os,σ,bY,before,h=>by
   rw[FX]
   simp only[rF,List.map_cons,Lp,Bool.and_eq_true] at h
   refine mX h fun v σ' r w h'=> ?_
   have h1:rF E os (σ'.put o.dst v) (fun fs σ''=> (fits bY (closure before o.pre) ⟨r,(match o.dst with| some d=> [.t d] | none=> [])++w⟩ bY.length &&o.pre.all (· <bY.length))=true):=
    qj h' fun fs σ'' hh=>by
      have:=hh.1
      simp only[List.map_cons,Lp,Bool.and_eq_true] at this
      simp only[Bool.and_eq_true];exact this.1
   have const: ∀ {os:List bD} {σ:St} {p:Prop},rF E os σ (fun _ _=>p)→p:=by
    intro os
    induction os with
    | nil=>intro σ p h;exact h
    | cons o os ih=>
      intro σ p h
      simp only[rF] at h
      obtain⟨n,v,σ',_,h2⟩:=h
      exact ih h2
   refine⟨const h1,FZ (qj h' fun fs σ'' hh=> ⟨by have:=hh.1;simp only[List.map_cons,Lp,Bool.and_eq_true] at this;exact this.2,hh.2⟩)⟩
theorem xI {ops:List bD} {Q:bd→St→Prop} (h:Tl E ops σ (fun fs σ'=>Lp (ops.map (·.pre)) [] [] fs=true∧Q .normal σ')):mM E (.drawn ops) σ Q:=by
 rw[DS];exact FZ h
theorem F1 {d t:Nat} {v:V}: (σ.put (some d) v).T t=if t=d then v else σ.T t:=rfl
theorem F3 {d:Option Nat} {r:Nat} {v:V}: (σ.put d v).O r=σ.O r:=by cases d<;>rfl
theorem uo {v:V}:σ.put none v=σ:=rfl
theorem Bd {r t:Nat} {o:Obj}: (σ.bI r o).T t=σ.T t:=rfl
theorem Be {r r':Nat} {o:Obj}: (σ.bI r o).O r'=if r'=r then o else σ.O r':=rfl
theorem ki {t:Nat}:bo σ (.tmp t)=σ.T t:=rfl
theorem iD {v:V}:bo σ (.const v)=v:=rfl
theorem iE: ∀ {cs:List V},V.an cs=true→ ∀ {x:V},x ∈ cs→x.aC=true
 | [],_,x,h=>by simp at h
 | c::cs,h,x,hx=>by
   simp only[V.an,Bool.and_eq_true] at h
   rcases List.mem_cons.1 hx with rfl| hx
   · exact h.1
   · exact iE h.2 hx
theorem ph: ∀ {cs:List V},(∀x ∈ cs,V.aC x=true)→V.an cs=true
 | [],_=>rfl
 | c::cs,h=>by
   simp only[V.an,Bool.and_eq_true]
   exact⟨h c (by simp),ph fun x hx=>h x (by simp[hx])⟩
theorem fR {args:List V} (h:V.an args=true):enter args=⟨fun t=>args.getD t dX,fun _=>bJ⟩:=by
 have key: ∀ (t:Nat) (a:V),args[t]? =some a→a.aC=true:=fun t a ht=>iE h (List.mem_of_getElem? ht)
 unfold enter
 congr 1
 · funext t
   cases ha:args[t]? with
   | none=>simp[List.getD,ha]
   | some a=>have:=key t a ha;simp only[List.getD,ha,Option.getD_some];cases a<;>simp_all[V.aC]
 · funext t
   cases ha:args[t]? with
   | none=>rfl
   | some a=>have:=key t a ha;cases a<;>simp_all[V.aC]
theorem jC {bK:Bool} {r:Nat} {gs:List (Nat×Nat×Nat)} {v:V} {k:V→Act} (h:v.aC=true):cn bK r gs v k=k v:=by
 simp[cn,h]
end
def fi (sz kb:Nat):List V→Option fL
 | [.nils]=>some ⟨.own sz [],[]⟩
 | [.lit sz' xs]=>if sz'=sz∧xs.length≤kb then some ⟨.own sz xs,[]⟩ else none
 | _=>none
def y6:List V→Option fL
 | [.float b]=>match FloatKind.f64.format.sqrt b with
   | some r=>some ⟨.float r,[]⟩
   | none=>none
 | _=>none
theorem uq {v:V} {k:V→Act} (h:v.aC=true):sA v k=k v:=by
 cases v<;>simp_all[sA]
theorem fW {O:Nat→Obj}: ∀ {args:List V} {i:Nat},V.an args=true→bW O i args=some []
 | [],_,_=>rfl
 | a::as,i,h=>by
   simp only[V.an,Bool.and_eq_true] at h
   have:=fW (O:=O) (i:=i+1) h.2
   cases a<;>simp_all[bW,V.aC]
theorem lK {n:Nat} {σ:St} {v:V} (h:v.aC=true):cL n σ v=some (v,[]):=by
 simp[cL,h]
theorem rH {sz:Nat} {v:V} (h:v.aP=true):part false 0 sz v=some v:=by
 cases v<;>simp_all[part,V.aP]
def y7 (sz:Nat) (xs:List V) (v:V):Prop:=v= .lit sz xs∨v= .nils∧xs=[]
theorem y7.pure {sz:Nat} {xs:List V} {v:V} (h:y7 sz xs v):v.aC=true:=by
 rcases h with rfl| ⟨rfl,_⟩ <;>rfl
theorem y7.len {sz:Nat} {xs:List V} {v:V} (h:y7 sz xs v):oD v=some (.int .i64 xs.length):=by
 rcases h with rfl| ⟨rfl,rfl⟩ <;>rfl
theorem y7.lit {sz:Nat} {xs:List V}:y7 sz xs (.lit sz xs):= .inl rfl
theorem y7.aP {sz:Nat} {xs:List V} {v:V} (h:y7 sz xs v):v.aP=true:=by
 rcases h with rfl| ⟨rfl,_⟩ <;>rfl
def ib (sz:Nat) (v i:V):Act:=
 match v,i with
 | .sl r g off len,.int _ n=> .bV r fun o=>if 0≤n∧n<len∧o.sz=sz∧o.gen=g then .done (.ptr r g (off+n.toNat) 0) else .fail
 | .lit sz' xs,.int _ n=>if 0≤n∧sz'=sz then match xs[n.toNat]? with
    | some e=> .done (.eptr e 0)
    | none=> .fail
   else .fail
 | .litk sz' xs,.int _ n=>if 0≤n∧sz'=sz∧0 <sz then match xs[n.toNat]? with
    | some e=> .done (.epk n.toNat sz e 0)
    | none=> .fail
   else .fail
 | _,_=> .fail
theorem iF {E:Env} {sz:Nat} {x i:aW}:av E (.indexAddr sz x i)=ev x fun v=>ev i fun i=>ib sz v i:=rfl
def pj ( sz:Nat) (v:V) (l h m:Option V):Act:=
 match v with
 | .sl r g off len=> .bV r fun o=>match o.es with
   | some es=>if o.gen=g∧o.sz=sz then
      match bL 0 l,bL len h,m with
      | some l,some h,none=>if l≤h∧off+h≤es.length then .done (.sl r g (off+l) (h - l)) else .fail
      | some l,some h',some m=>match h,bL 0 (some m) with
        | some _,some m=>if l≤h'∧h'≤m∧off+m≤es.length then .done (if m=l then .nils else .any) else .fail
        | _,_=> .fail
      | _,_,_=> .fail
     else .fail
   | none=> .fail
 | v=>cT (jD sz v l h m)
theorem nX {E:Env} {sz:Nat} {x:aW} {lo hi mx:Option aW}:av E (.slice sz x lo hi mx)=ev x fun v=>vV lo fun l=>vV hi fun h=>vV mx fun m=>pj sz v l h m:=rfl
def ur (r sz kb:Nat) (s:V) (ys:List V):Act:=
 if ys.all (aS · sz) &&decide (0 <sz) then match s with
  | .nils=>if ys.isEmpty then .done .nils else if ys.length≤kb then
      .bV r fun o=> .bI r {gen:=o.gen+1,sz,arr:=true,fz:=false,es:=some ys} (.done (.sl r (o.gen+1) 0 ys.length)) else .fail
  | .lit sz' xs=>if ys.isEmpty then .done (.lit sz' xs) else .fail
  | .sl r' g off len=> .bV r' fun o=>match o.es with
    | some es=>if o.gen=g∧o.arr=true∧o.fz=false∧o.sz=sz∧off+len≤es.length∧len+ys.length≤kb then
        if off+len+ys.length≤es.length then
             .bI r' {o with es:=some (overwrite es (off+len) ys)} (.done (.sl r' g off (len+ys.length)))
        else
             .bI r' {o with gen:=g+1,es:=some (aN es off len++ys)} (.done (.sl r' (g+1) 0 (len+ys.length)))
      else .fail
    | none=> .fail
  | _=> .fail
  else .fail
theorem lL {E:Env} {r sz kb:Nat} {s x:aW}:av E (.append r sz kb s x)=ev s fun s=>ev x fun x=>content sz x fun ys=>gv ys fun ys=>ur r sz kb s ys:=rfl
theorem rI {ys:List V} {k:List V→Act} (h:V.an ys=true):gv ys k=k ys:=by simp[gv,h]
theorem F4 {r sz kb r' g off len:Nat} {ys:List V} (h:ys.all (aS · sz)=true) (h0:0 <sz):ur r sz kb (.sl r' g off len) ys= .bV r' fun o=>match o.es with
  | some es=>if o.gen=g∧o.arr=true∧o.fz=false∧o.sz=sz∧off+len≤es.length∧len+ys.length≤kb then
     if off+len+ys.length≤es.length then
      .bI r' {o with es:=some (overwrite es (off+len) ys)} (.done (.sl r' g off (len+ys.length)))
     else
      .bI r' {o with gen:=g+1,es:=some (aN es off len++ys)} (.done (.sl r' (g+1) 0 (len+ys.length)))
    else .fail
  | none=> .fail:=by
 simp only[ur]
 rw[h];simp[h0]
theorem jE {α:Type} (f:α→V) (l:List α) (a b:Nat):AM.aN (l.map f) a b=((l.drop a).take b).map f:=by
 simp[AM.aN,List.map_take,List.map_drop]
theorem lM {xs:List V} {n:Nat} (h:n=xs.length):AM.aN xs 0 n=xs:=by
 subst h;simp[AM.aN]
def firstIdx {α:Type} (p:α→Bool) (xs:List α):Int:=match xs.findIdx? p with
 | some i=>i
 | none=> -1
theorem dH {α:Type} {p:α→Bool} {xs:List α} {i:Nat} {x:α} (h: ∀j y,j<i→xs[j]? =some y→p y=false) (hx:xs[i]? =some x) (hp:p x=true):firstIdx p xs=i:=by
 have:xs.findIdx? p=some i:=by
  rw[List.findIdx?_eq_some_iff_getElem]
  obtain⟨hl,hv⟩:=List.getElem?_eq_some_iff.1 hx
  refine⟨hl,by rw[hv];exact hp,fun j hj=> ?_⟩
  have:=h j _ hj (List.getElem?_eq_getElem (by omega))
  simp[this]
 simp[firstIdx,this]
theorem firstIdx_none {α:Type} {p:α→Bool} {xs:List α} (h: ∀ (j:Nat) (y:α),xs[j]? =some y→p y=false):firstIdx p xs= -1:=by
 have:xs.findIdx? p=none:=by
  rw[List.findIdx?_eq_none_iff]
  intro x hx
  obtain⟨j,hj⟩:=List.mem_iff_getElem?.1 hx
  exact h j x hj
 simp[firstIdx,this]
theorem qk (a b:Int): (a==b)=decide (a=b):=by
 by_cases h:a=b
 · simp[h]
 · simp[h]
theorem xJ (a b:Int): (a !=b)= !decide (a=b):=by simp[bne,qk]
theorem wrap64 {n:Int} (h0: -9223372036854775808≤n) (h1:n≤9223372036854775807):IntKind.i64.wrap n=n:=by
 simp[IntKind.wrap,IntKind.bits,IntKind.signed]
 omega
attribute [go_sem] tQ lJ qe qf tP nV nW qg qa tO qi tT dM iF nX lL av.kj uh kR mV mU p9 ui xG qc mW qd kS qb uj xH aS V.c6 V.aC V.an V.isScalar V.bA uq fW lK jC rH F1 F3 Bd Be uo rG bJ andThen uk ki iD F5 dX fL.mk.injEq V.int.injEq V.tuple.injEq List.cons.injEq V.bool.injEq V.str.injEq V.agg.injEq List.getD_cons_zero List.getD_cons_succ List.getD_nil List.length_cons List.length_nil List.getElem?_cons_zero List.getElem?_cons_succ List.set_cons_zero List.set_cons_succ List.take_succ_cons List.take_zero List.drop_succ_cons List.drop_zero List.take_nil List.drop_nil List.cons_append List.nil_append List.append_nil Nat.zero_add Nat.add_zero BEq.rfl Bool.true_or Bool.or_true Bool.false_or Bool.or_false Bool.and_true Bool.true_and Bool.and_false Bool.false_and Bool.and_self Bool.or_self Bool.false_eq_true Bool.true_eq_false Bool.not_true Bool.not_false Nat.lt_add_one Nat.le_refl decide_true decide_false decide_eq_true_eq if_true if_false true_and and_true and_self false_and and_false Nat.sub_zero Option.some.injEq Nat.zero_lt_one Nat.lt_irrefl ne_eq not_true_eq_false not_false_eq_true V.cells.eq_1 V.cells.eq_2 V.isAgg.eq_1 V.isAgg.eq_2 V.aP.eq_1 V.aP.eq_2 V.aP.eq_3 V.aP.eq_4 V.aP.eq_5 V.aP.eq_6 V.aP.eq_7 V.isTuple.eq_1 V.isTuple.eq_2 AM.part.eq_1 AM.part.eq_2 AM.part.eq_3 AM.part.eq_4 AM.da.eq_1 AM.da.eq_2 AM.da.eq_3 AM.da.eq_4 oD.eq_1 oD.eq_2 oD.eq_3 oD.eq_4 bL.eq_1 bL.eq_2 bL.eq_3 eS.eq_1 eS.eq_2 content.eq_1 content.eq_2 content.eq_3 content.eq_4 content.eq_5 dF.eq_1 dF.eq_2 cg.eq_1 cg.eq_2 sA.eq_1 sA.eq_2 cb.eq_1 cb.eq_2 cb.eq_3 cb.eq_4 cb.eq_5 cb.eq_6 dQ.eq_1 dQ.eq_2 gv.eq_1 gv.go.eq_1 gv.go.eq_2 cn.eq_1 cn.eq_2 eE.eq_1 eE.eq_2 dU.eq_1 dU.eq_2 bX.eq_1 bX.eq_2 bX.eq_3 cA.eq_1 cA.eq_2 bO.eq_1 bO.eq_2 bE.eq_1 bE.eq_2 cL.eq_1 cL.eq_2 cL.eq_3 cm.eq_1 cm.eq_2 eP.eq_1 eP.eq_2 cW.eq_1 cW.eq_2 bW.eq_1 bW.eq_2 bW.eq_3 bW.eq_4 b7.eq_1 b7.eq_2 b7.eq_3 b7.eq_4 b7.eq_5 b7.eq_6 b7.eq_7 b7.eq_8 b7.eq_9 b7.eq_10 b7.eq_11 b7.eq_12 b7.eq_13 b7.eq_14 b7.eq_15 b7.eq_16 b7.eq_17 b7.eq_18 b7.eq_19 b7.eq_20 b7.eq_21 dw.eq_1 dw.eq_2 dw.eq_3 dw.eq_4 dw.eq_5 dw.eq_6 dw.eq_7 Bf.eq_1 Bf.eq_2 Bf.eq_3 Bf.eq_4 min2.eq_1 min2.eq_2 max2.eq_1 max2.eq_2 gY.eq_1 gY.eq_2 gz.eq_1 gz.eq_2 v8.eq_1 v8.eq_2 v8.eq_3 v8.eq_4 eV.eq_1 eV.eq_2 eV.eq_3 eX.eq_1 eX.eq_2 ee.eq_1 ee.eq_2 ev.eq_1 ev.eq_2 wF.eq_1 wF.eq_2 vV.eq_1 vV.eq_2 ib.eq_1 ib.eq_2 ib.eq_3 cT.eq_1 cT.eq_2 leave.eq_1 distinct.eq_1 distinct.eq_2 fin.eq_1 fin.eq_2 fin.eq_3 av.eq_1 av.eq_2 av.eq_3 av.eq_4 av.eq_5 av.eq_6 av.eq_7 av.eq_8 av.eq_9 av.eq_10 av.eq_11 av.eq_12 av.eq_13 av.eq_14 av.eq_15 av.eq_16 av.eq_17 av.eq_18 av.eq_19 av.eq_20 av.eq_21 av.eq_23 av.eq_24 av.eq_26 av.eq_27 av.eq_28 av.eq_29 av.eq_30 av.eq_31 av.eq_32 av.eq_34 av.eq_35 av.eq_36 av.eq_37 av.eq_38 pj.eq_1 apart cp.eq_1 cp.eq_2 cM.eq_1 cM.eq_2 cM.eq_3 fy.eq_1 fy.eq_2 List.map_nil List.map_cons List.all_nil List.all_cons List.contains_nil List.contains_cons jD.eq_1 jD.eq_2 Option.isSome_some Option.isSome_none Option.isNone_none Option.isNone_some qk xJ bne_self_eq_false Bool.bne_true Bool.bne_false Bool.true_bne Bool.false_bne lM List.isEmpty_cons List.isEmpty_nil eq_self List.replicate_succ List.replicate_zero rI Int.cast_ofNat_Int Int.toNat_zero Int.toNat_one Int.neg_ofNat_le_ofNat Int.natCast_nonneg Int.toNat_natCast Int.toNat_natCast_add_one Int.ofNat_lt wrap64 Int.le_refl
end Go.AM
namespace Go.AM
section
variable {α:Type}
end
end Go.AM
namespace Go.AM
def Tm (tab:List (Nat×aF)) (f:Nat):Option aF:=(tab.find? (·.1==f)).map (·.2)
def Lq (tab:List (Nat× (List V→Option fL))) (f:Nat) (as:List V):Option fL:=match tab.find? (·.1==f) with
 | some p=>p.2 as
 | none=>none
structure MW where
 h: (Nat→List V→Option fL)→List V→Option fL
 mono: ∀ (C C':Nat→List V→Option fL),(∀g vs r,C g vs=some r→C' g vs=some r)→ ∀vs r,h C vs=some r→h C' vs=some r
def CJ (tab:List (Nat×MW)) (f:Nat):Option ((Nat→List V→Option fL)→List V→Option fL):=(tab.find? (·.1==f)).map (·.2.h)
theorem Bg (tab:List (Nat×MW)): ∀f h,CJ tab f=some h→ ∀ (C C':Nat→List V→Option fL),(∀g vs r,C g vs=some r→C' g vs=some r)→ ∀vs r,h C vs=some r→h C' vs=some r:=by
 intro f h hf
 unfold CJ at hf
 rw[Option.map_eq_some_iff] at hf
 obtain⟨p,_,rfl⟩:=hf
 exact p.2.mono
def F6 (tab:List (Nat× (List V→Option (List (List V))))) (g:Nat) (caps:List V):Option (List (List V)):=match tab.find? (·.1==g) with
 | some p=>p.2 caps
 | none=>none
def SH (tab:List (Nat×aF)) (ext:List (Nat× (List V→Option fL))) (hyb:List (Nat×MW)) (iter:List (Nat× (List V→Option (List (List V))))):Env:={fn:=Tm tab,ext:=Lq ext,hyb:=CJ hyb,mono:=Bg hyb,iter:=F6 iter}
abbrev ow (x:rA):bD:=⟨none,x,none,[]⟩
abbrev op (d:Nat) (x:rA) (p:List Nat):bD:=⟨some d,x,none,p⟩
abbrev fc (n:Nat):aW:= .const (.fn n [])
end Go.AM
namespace Go.AM
def jn:Nat→List V→List (List V)
 | i,p::q::rest=> [.int .i64 (i:Int),.agg (p.cells++q.cells)]::jn (i+1) (q::rest)
 | _,_=> []
def CK:List V→Option (List (List V))
 | [.eptr (.lit 2 ps) 0]=>if ps.length< 4611686018427387904 then some (jn 0 ps) else none
 | [.eptr .nils 0]=>some []
 | _=>none
end Go.AM
namespace Go.AM
def uu (skip:Bool) (n:Int):Nat→List V→List (List V)
 | i,p::q::rest=> (if skip && (decide ((i:Int)=n - 1) || decide ((i:Int)=n)) then [] else [[p,q]])++uu skip n (i+1) (q::rest)
 | _,_=> []
def I7:V→Bool
 | .agg [_,_]=>true
 | _=>false
def y8 (e n:Int):Nat→List V→Option (List (List V))
 | _,[]=>some []
 | k,.agg [.int .i64 _,.lit 2 ps,.int .i64 _,.int .i64 _]::es=>if ps.length< 4611686018427387904∧ps.all I7=true then(y8 e n (k+1) es).map (uu (decide ((k:Int)=e)) n 0 ps++ ·) else none
 | _,_=>none
def F7:List V→Option (List (List V))
 | [.eptr (.agg [.lit 4 es,_,_,_]) 0,.eptr (.agg (.int .i64 e:: .int .i64 n::_)) 0]=>if es.length< 4611686018427387904∧0≤n∧n< 4611686018427387904 then y8 e n 0 es else none
 | _=>none
end Go.AM
namespace Go.AM
structure SS where
 T:List (Nat×V)
 O:List (Nat×Obj)
def lk {α:Type}:List (Nat×α)→Nat→Option α
 | [],_=>none
 | (k,v)::l,n=>bif Nat.beq k n then some v else lk l n
def SS.On (S:SS) (σ:St):Prop:=(∀t v,lk S.T t=some v→σ.T t=v)∧(∀r o,lk S.O r=some o→σ.O r=o)
def SS.put (S:SS) (d:Option Nat) (v:V):SS:=match d with
 | some d=> ⟨(d,v)::S.T,S.O⟩
 | none=>S
def SS.bI (S:SS) (r:Nat) (o:Obj):SS:=⟨S.T,(r,o)::S.O⟩
theorem eF {α:Type} {p:Nat×α} {l:List (Nat×α)} {n:Nat}:lk (p::l) n=if p.1=n then some p.2 else lk l n:=by
 obtain⟨k,v⟩:=p
 simp only[lk]
 by_cases h:k=n
 · simp[h]
 · have:Nat.beq k n=false:=by
    cases hb:Nat.beq k n with
    | false=>rfl
    | true=>exact absurd (Nat.eq_of_beq_eq_true hb) h
   simp[h,this]
theorem SS.On.put {S:SS} {σ:St} (h:S.On σ) (d:Option Nat) (v:V): (S.put d v).On (σ.put d v):=by
 cases d with
 | none=>exact h
 | some d=>
   refine⟨fun t x hx=> ?_,fun r o ho=> ?_⟩
   · simp only[SS.put,eF] at hx
     show dn σ.T d v t=x
     unfold dn
     by_cases e:d=t
     · simp only[e,if_true,Option.some.injEq] at hx ⊢;exact hx
     · rw[if_neg e] at hx;rw[if_neg (Ne.symm e)];exact h.1 t x hx
   · exact h.2 r o ho
theorem SS.On.bI {S:SS} {σ:St} (h:S.On σ) (r:Nat) (o:Obj): (S.bI r o).On (σ.bI r o):=by
 refine⟨fun t x hx=>h.1 t x hx,fun r' x hx=> ?_⟩
 simp only[SS.bI,eF] at hx
 show dn σ.O r o r'=x
 unfold dn
 by_cases e:r=r'
 · simp only[e,if_true,Option.some.injEq] at hx ⊢;exact hx
 · rw[if_neg e] at hx;rw[if_neg (Ne.symm e)];exact h.2 r' x hx
inductive bz:Type 1 where
 | done (v:V)
 | fail
 | mL (t:Nat) (k:V→bz)
 | bV (r:Nat) (k:Obj→bz)
 | bI (r:Nat) (o:Obj) (k:bz)
 | lN (r:Nat) (k:Nat→bz)
 | call (f:Nat) (args:List V) (k:fL→bz)
 | bS (p:Prop) (k:bz)
 | ex (α:Type) (p:α→Prop) (k:α→bz)
 | ite (b:Bool) (x y:bz)
 | alt (x y:bz)
 | all (k:Nat→bz)
 | Tn (a:Act)
def Ref:bz→Act→Prop
 | .done v,a=>a= .done v
 | .fail,_=>True
 | .mL t k,a=> ∃k0,a= .mL t k0∧ ∀v,Ref (k v) (k0 v)
 | .bV r k,a=> ∃k0,a= .bV r k0∧ ∀o,Ref (k o) (k0 o)
 | .bI r o k,a=> ∃k0,a= .bI r o k0∧Ref k k0
 | .lN r k,a=> ∃k0,a= .bV r k0∧ ∀o:Obj,Ref (k (o.gen+1)) (k0 o)
 | .call f as k,a=> ∃k0,a= .call f as k0∧ ∀res,Ref (k res) (k0 res)
 | .bS p k,a=>p→Ref k a
 | .ex _ p k,a=> ∀x,p x→Ref (k x) a
 | .ite b x y,a=> (b=true→Ref x a)∧(b=false→Ref y a)
 | .alt x y,a=>Ref x a∧Ref y a
 | .all k,a=> ∃n,Ref (k n) a
 | .Tn b,a=>a=b
structure dI (p q:Prop):Prop where
 side:p
 rest:q
inductive aL {α:Type} (p q:α→Prop):Prop
 | mk (x:α) (h:p x) (k:q x)
structure Br (b:Bool) (p q:Prop):Prop where
 yes:b=true→p
 no:b=false→q
inductive ag (E:Env) (f:Nat) (as:List V) (q:fL→Prop):Prop
 | mk (res:fL) (h:Ev E f as res) (k:q res)
theorem Br.tt {p q:Prop} (h:p):Br true p q:=⟨fun _=>h,fun h=>by cases h⟩
theorem Br.ff {p q:Prop} (h:q):Br false p q:=⟨fun h=> (by cases h),fun _=>h⟩
theorem Br.dec {c:Prop} {_:Decidable c} {p q:Prop} (h:c→p) (k: ¬c→q):Br (decide c) p q:=⟨fun e=>h (of_decide_eq_true e),fun e=>k (of_decide_eq_false e)⟩
theorem Br.aaL {c:Prop} {_:Decidable c} {p q:Prop} (h: ¬c→p) (k:c→q):Br (!decide c) p q:=by
 refine⟨fun e=>h ?_,fun e=>k ?_⟩
 · simpa using e
 · simpa using e
theorem Br.t {c:Prop} {_:Decidable c} {p q:Prop} (h:c) (k:p):Br (decide c) p q:=⟨fun _=>k,fun e=>absurd h (of_decide_eq_false e)⟩
theorem Br.f {c:Prop} {_:Decidable c} {p q:Prop} (h: ¬c) (k:q):Br (decide c) p q:=⟨fun e=>absurd (of_decide_eq_true e) h,fun _=>k⟩
theorem Br.nt {c:Prop} {_:Decidable c} {p q:Prop} (h: ¬c) (k:p):Br (!decide c) p q:=⟨fun _=>k,fun e=>absurd ((by simpa using e:c)) h⟩
theorem Br.nf {c:Prop} {_:Decidable c} {p q:Prop} (h:c) (k:q):Br (!decide c) p q:=⟨fun e=>absurd h ((by simpa using e: ¬c)),fun _=>k⟩
theorem Br.bt {b:Bool} {p q:Prop} (h:b=true) (k:p):Br b p q:=⟨fun _=>k,fun e=> (by rw[h] at e;cases e)⟩
theorem Br.bf {b:Bool} {p q:Prop} (h:b=false) (k:q):Br b p q:=⟨fun e=> (by rw[h] at e;cases e),fun _=>k⟩
abbrev KK:=V→SS→List Loc→List Loc→Prop
structure DT (E:Env) (a:Act) (S:SS) (Q:KK):Prop where
 h: ∀σ,S.On σ→pY E a σ fun v σ' r w=> ∃S',S'.On σ'∧Q v S' r w
def ed (E:Env):bz→SS→KK→Prop
 | .done v,S,Q=>Q v S [] []
 | .fail,_,_=>False
 | .mL t k,S,Q=>match lk S.T t with
   | some v=>ed E (k v) S fun v S' r w=>Q v S' (.t t::r) w
   | none=>False
 | .bV t k,S,Q=>match lk S.O t with
   | some v=>ed E (k v) S fun v S' r w=>Q v S' (.o t::r) w
   | none=>False
 | .bI t o k,S,Q=>match S with
   | ⟨T,O⟩=>ed E k ⟨T,(t,o)::O⟩ fun v S' r w=>Q v S' r (.o t::w)
 | .lN t k,S,Q=> ∀g:Nat,ed E (k g) S fun v S' r w=>Q v S' (.o t::r) w
 | .call f as k,S,Q=>ag E f as fun res=>ed E (k res) S Q
 | .bS p k,S,Q=>dI p (ed E k S Q)
 | .ex _ p k,S,Q=>aL p fun x=>ed E (k x) S Q
 | .ite b x y,S,Q=>Br b (ed E x S Q) (ed E y S Q)
 | .alt x y,S,Q=>ed E x S Q∨ed E y S Q
 | .all k,S,Q=> ∀n,ed E (k n) S Q
 | .Tn a,S,Q=>DT E a S Q
theorem cU {E:Env}: ∀ {a2:bz} {a:Act} {S:SS} {Q:KK} {σ:St},Ref a2 a→ed E a2 S Q→S.On σ→pY E a σ fun v σ' r w=> ∃S',S'.On σ'∧Q v S' r w
 | .done v,a,S,Q,σ,hr,h,ho=>by
   simp only[Ref] at hr;subst hr
   rw[kS];exact⟨S,ho,h⟩
 | .fail,_,_,_,_,_,h,_=>by simp[ed] at h
 | .mL t k,a,S,Q,σ,hr,h,ho=>by
   obtain⟨k0,rfl,hk⟩:=hr
   rw[qc]
   simp only[ed] at h
   split at h
   · rename_i v hv
     rw[ho.1 t v hv]
     exact cU (hk v) h ho
   · exact h.elim
 | .bV t k,a,S,Q,σ,hr,h,ho=>by
   obtain⟨k0,rfl,hk⟩:=hr
   rw[mW]
   simp only[ed] at h
   split at h
   · rename_i v hv
     rw[ho.2 t v hv]
     exact cU (hk v) h ho
   · exact h.elim
 | .bI t o k,a,S,Q,σ,hr,h,ho=>by
   obtain⟨k0,rfl,hk⟩:=hr
   rw[qd]
   simp only[ed] at h
   obtain⟨T,O⟩:=S
   exact cU hk h (ho.bI t o)
 | .lN t k,a,S,Q,σ,hr,h,ho=>by
   obtain⟨k0,rfl,hk⟩:=hr
   rw[mW]
   simp only[ed] at h
   exact cU (hk (σ.O t)) (h _) ho
 | .call f as k,a,S,Q,σ,hr,h,ho=>by
   obtain⟨k0,rfl,hk⟩:=hr
   rw[FW]
   simp only[ed] at h
   obtain⟨res,he,h⟩:=h
   exact⟨res,he,cU (hk res) h ho⟩
 | .bS p k,a,S,Q,σ,hr,h,ho=>cU (hr h.1) h.2 ho
 | .ex α p k,a,S,Q,σ,hr,h,ho=>by
   simp only[ed] at h
   obtain⟨x,hx,h⟩:=h
   exact cU (hr x hx) h ho
 | .ite b x y,a,S,Q,σ,hr,h,ho=>by
   simp only[ed] at h
   simp only[Ref] at hr
   cases b with
   | true=>exact cU (hr.1 rfl) (h.1 rfl) ho
   | false=>exact cU (hr.2 rfl) (h.2 rfl) ho
 | .alt x y,a,S,Q,σ,hr,h,ho=>by
   simp only[ed] at h
   rcases h with h| h
   · exact cU hr.1 h ho
   · exact cU hr.2 h ho
 | .all k,a,S,Q,σ,hr,h,ho=>by
   obtain⟨n,hr⟩:=hr
   exact cU hr (h n) ho
 | .Tn b,a,S,Q,σ,hr,h,ho=>by
   simp only[Ref] at hr
   subst hr
   exact h.h σ ho
end Go.AM
namespace Go.AM
def nth {α:Type}:List α→Nat→Option α
 | [],_=>none
 | x::_,0=>some x
 | _::l,n+1=>nth l n
theorem Bh {α:Type}: ∀ (l:List α) (n:Nat),nth l n=l[n]?
 | [],_=>by simp[nth]
 | _::_,0=>by simp[nth]
 | _::l,n+1=>by simp[nth,Bh l n]
def force {α:Type} {β:Type 1}:List α→(List α→β)→β
 | [],k=>k []
 | x::l,k=>force l fun l'=>k (x::l')
theorem force_eq {α:Type} {β:Type 1}: ∀ (l:List α) (k:List α→β),force l k=k l
 | [],_=>rfl
 | _::l,k=>by simp only[force,force_eq l]
def xK {α:Type}:List α→Nat→α→List α
 | [],_,_=> []
 | _::l,0,y=>y::l
 | x::l,n+1,y=>x::xK l n y
theorem tU {α:Type}: ∀ (l:List α) (n:Nat) (y:α),xK l n y=l.set n y
 | [],_,_=>by simp[xK]
 | _::_,0,_=>by simp[xK]
 | _::l,n+1,y=>by simp[xK,tU l n y]
def eY {α:Type}:List α→Nat→Bool
 | [],0=>true
 | _::l,n+1=>eY l n
 | _,_=>false
theorem jF {α:Type}: ∀ {l:List α} {n:Nat},eY l n=true→l.length=n
 | [],0,_=>rfl
 | _::l,n+1,h=>by simp only[eY] at h;simp[jF h]
 | [],_+1,h=>by simp[eY] at h
 | _::_,0,h=>by simp[eY] at h
def fX {α:Type}:List α→Nat→Bool
 | _,0=>true
 | _::l,n+1=>fX l n
 | [],_+1=>false
theorem kU {α:Type}: ∀ {l:List α} {n:Nat},fX l n=true→n≤l.length
 | _,0,_=>Nat.zero_le _
 | _::l,n+1,h=>by simp only[fX] at h;simpa using kU h
 | [],_+1,h=>by simp[fX] at h
def takeN {α:Type}:List α→Nat→List α
 | _,0=> []
 | x::l,n+1=>x::takeN l n
 | [],_+1=> []
theorem ql {α:Type}: ∀ (l:List α) (n:Nat),takeN l n=l.take n
 | _,0=>by simp[takeN]
 | _::l,n+1=>by simp[takeN,ql l n]
 | [],_+1=>by simp[takeN]
def oJ {α:Type}:List α→Nat→List α
 | l,0=>l
 | _::l,n+1=>oJ l n
 | [],_+1=> []
theorem qm {α:Type}: ∀ (l:List α) (n:Nat),oJ l n=l.drop n
 | _,0=>by simp[oJ]
 | _::l,n+1=>by simp[oJ,qm l n]
 | [],_+1=>by simp[oJ]
def jG (v:V) (sz:Nat):Bool:=match v with
 | .agg cs=>eY cs sz
 | v=>V.aP v &&Nat.beq sz 1
theorem jx {v:V} {sz:Nat} (h:jG v sz=true):aS v sz=true:=by
 unfold jG at h
 split at h
 · simp[aS,V.cells,V.c6,V.isAgg,jF h]
 · rename_i hn
   simp only[Bool.and_eq_true] at h
   have h1:sz=1:=Nat.eq_of_beq_eq_true h.2
   have h2:v.cells=[v]:=by cases v<;>simp_all[V.cells]
   simp[aS,V.c6,h2,h1,h.1]
def uv (agg:Bool) (off sz:Nat) (e:V):Option V:=
 match agg with
 | true=>match e with
   | .agg cs=>bif Nat.beq off 0 &&eY cs sz then some e else bif fX cs (off+sz) then some (.agg (takeN (oJ cs off) sz)) else none
   | _=>none
 | false=>match e with
   | .agg cs=>nth cs off
   | v=>bif V.aP v &&Nat.beq off 0 then some v else none
theorem jH {agg:Bool} {off sz:Nat} {e v:V} (h:uv agg off sz e=some v):AM.part agg off sz e=some v:=by
 cases agg with
 | true=>
   simp only[uv] at h
   cases e with
   | agg cs=>
     simp only at h
     cases hb: (Nat.beq off 0 &&eY cs sz) with
     | true=>
       simp only[hb,cond_true,Option.some.injEq] at h
       subst h
       simp only[Bool.and_eq_true] at hb
       have h1:off=0:=Nat.eq_of_beq_eq_true hb.1
       have h2:=jF hb.2
       simp[AM.part,h1,←h2]
     | false=>
       simp only[hb,cond_false] at h
       cases hc:fX cs (off+sz) with
       | true=>
         simp only[hc,cond_true,Option.some.injEq] at h
         subst h
         simp[AM.part,ql,qm,kU hc]
       | false=>simp[hc] at h
   | _=>simp at h
 | false=>
   simp only[uv] at h
   cases e with
   | agg cs=>simp only[Bh] at h;simpa [AM.part] using h
   | _=>
     simp only[V.aP,Bool.true_and,Bool.false_and,cond_false] at h
     first
     | (simp at h;done)
     | (cases hb:Nat.beq off 0 with
        | true=>simp only[hb,cond_true] at h;have h1:=Nat.eq_of_beq_eq_true hb;simp[AM.part,h1,V.aP];simpa using h
        | false=>simp[hb] at h)
def iP (agg:Bool) (off sz:Nat) (e v:V):Option V:=
 match agg with
 | true=>match e,v with
   | .agg cs,.agg vs=>bif eY vs sz then(bif Nat.beq off 0 &&eY cs sz then some v else bif fX cs (off+sz) then some (.agg (takeN cs off++(vs++oJ cs (off+sz)))) else none) else none
   | _,_=>none
 | false=>bif V.aP v &&Nat.beq sz 1 then match e with
    | .agg cs=>bif fX cs (off+1) then some (.agg (xK cs off v)) else none
    | e=>bif V.aP e &&Nat.beq off 0 then some v else none
   else none
theorem sB {agg:Bool} {off sz:Nat} {e v x:V} (h:iP agg off sz e v=some x):da agg off sz e v=some x:=by
 cases agg with
 | true=>
   simp only[iP] at h
   split at h
   · rename_i cs vs
     cases h1:eY vs sz with
     | false=>simp[h1] at h
     | true=>
       have wG:=jF h1
       simp only[h1,cond_true] at h
       cases hb: (Nat.beq off 0 &&eY cs sz) with
       | true=>
         simp only[hb,cond_true,Option.some.injEq] at h
         subst h
         simp only[Bool.and_eq_true] at hb
         have h3:off=0:=Nat.eq_of_beq_eq_true hb.1
         have h2:=jF hb.2
         subst h3
         simp[da,wG,h2]
       | false=>
         simp only[hb,cond_false] at h
         cases hc:fX cs (off+sz) with
         | true=>
           simp only[hc,cond_true,Option.some.injEq] at h
           subst h
           simp[da,ql,qm,kU hc,wG]
         | false=>simp[hc] at h
   · simp at h
 | false=>
   simp only[iP] at h
   cases hb: (V.aP v &&Nat.beq sz 1) with
   | false=>simp[hb] at h
   | true=>
     simp only[hb,cond_true] at h
     simp only[Bool.and_eq_true] at hb
     have h1:sz=1:=Nat.eq_of_beq_eq_true hb.2
     split at h
     · rename_i cs
       cases hc:fX cs (off+1) with
       | false=>simp[hc] at h
       | true=>
         simp only[hc,cond_true,Option.some.injEq] at h
         subst h
         have:=kU hc
         simp[da,hb.1,h1,tU];omega
     · rename_i hn
       cases hc: (V.aP e &&Nat.beq off 0) with
       | false=>simp[hc] at h
       | true=>
         simp only[hc,cond_true,Option.some.injEq] at h
         subst h
         simp only[Bool.and_eq_true] at hc
         have h3:off=0:=Nat.eq_of_beq_eq_true hc.2
         cases e<;>simp_all[da,V.aP]
def jI:Option V→bz
 | some v=> .done v
 | none=> .fail
def oK (agg:Bool) (off sz:Nat) (e:V):bz:=
 match agg with
 | true=>match e with
   | .agg cs=>bif Nat.beq off 0 &&eY cs sz then .done e else bif fX cs (off+sz) then force (takeN (oJ cs off) sz) fun l=> .done (.agg l) else .fail
   | _=> .fail
 | false=>match e with
   | .agg cs=>jI (nth cs off)
   | v=>bif V.aP v &&Nat.beq off 0 then .done v else .fail
theorem mY {agg:Bool} {off sz:Nat} {e:V}:oK agg off sz e=jI (uv agg off sz e):=by
 unfold oK uv
 cases agg with
 | true=>
   cases e with
   | agg cs=>
     simp only
     cases hb: (Nat.beq off 0 &&eY cs sz) with
     | true=>rfl
     | false=>
       simp only[cond_false]
       cases hc:fX cs (off+sz) with
       | true=>simp only[cond_true,force_eq];rfl
       | false=>rfl
   | _=>rfl
 | false=>
   cases e with
   | agg cs=>rfl
   | _=>simp only;cases hb:Nat.beq off 0 <;>simp[V.aP,jI]
def F8 (agg:Bool) (off sz:Nat) (e v:V) (k:V→bz):bz:=
 match agg with
 | true=>match e,v with
   | .agg cs,.agg vs=>bif eY vs sz then(bif Nat.beq off 0 &&eY cs sz then k v else bif fX cs (off+sz) then force (takeN cs off++(vs++oJ cs (off+sz))) fun l=>k (.agg l) else .fail) else .fail
   | _,_=> .fail
 | false=>bif V.aP v &&Nat.beq sz 1 then match e with
    | .agg cs=>bif fX cs (off+1) then force (xK cs off v) fun l=>k (.agg l) else .fail
    | e=>bif V.aP e &&Nat.beq off 0 then k v else .fail
   else .fail
theorem I8 {agg:Bool} {off sz:Nat} {e v:V} {k:V→bz}:F8 agg off sz e v k=match iP agg off sz e v with
   | some x=>k x
   | none=> .fail:=by
 unfold F8 iP
 cases agg with
 | true=>
   simp only
   split
   · rename_i cs vs
     cases eY vs sz with
     | false=>rfl
     | true=>
       simp only[cond_true]
       cases (Nat.beq off 0 &&eY cs sz) with
       | true=>rfl
       | false=>
         simp only[cond_false]
         cases fX cs (off+sz) with
         | true=>simp only[cond_true,force_eq]
         | false=>rfl
   · rfl
 | false=>
   simp only
   cases (V.aP v &&Nat.beq sz 1) with
   | false=>rfl
   | true=>
     simp only[cond_true]
     split
     · rename_i cs
       cases fX cs (off+1) with
       | true=>simp only[cond_true,force_eq]
       | false=>rfl
     · cases (V.aP e &&Nat.beq off 0) <;>rfl
def fg (x:aW) (k:V→bz):bz:=match x with
 | .tmp t=> .mL t k
 | .const v=>k v
theorem Ref.ev {x:aW} {k:V→bz} {k0:V→Act} (h: ∀v,Ref (k v) (k0 v)):Ref (fg x k) (AM.ev x k0):=by
 cases x with
 | tmp t=>exact⟨k0,rfl,h⟩
 | const v=>exact h v
def DU:List aW→(List V→bz)→bz
 | [],k=>k []
 | x::xs,k=>fg x fun v=>DU xs fun vs=>k (v::vs)
theorem Ref.wF: ∀ {xs:List aW} {k:List V→bz} {k0:List V→Act},(∀v,Ref (k v) (k0 v))→Ref (DU xs k) (AM.wF xs k0)
 | [],_,_,h=>h []
 | x::xs,_,_,h=>Ref.ev fun v=>Ref.wF fun vs=>h (v::vs)
def DV:Option aW→(Option V→bz)→bz
 | none,k=>k none
 | some x,k=>fg x fun v=>k (some v)
theorem Ref.vV {x:Option aW} {k:Option V→bz} {k0:Option V→Act} (h: ∀v,Ref (k v) (k0 v)):Ref (DV x k) (AM.vV x k0):=by
 cases x with
 | none=>exact h none
 | some x=>exact Ref.ev fun v=>h (some v)
theorem Ref.cT {o o0:Option V} (h: ∀v,o=some v→o0=some v):Ref (jI o) (AM.cT o0):=by
 cases o with
 | none=>trivial
 | some v=>rw[h v rfl];exact rfl
theorem Ref.fA {o:Option V}:Ref (jI o) (AM.cT o):=Ref.cT fun _ h=>h
theorem Ref.fail {a:Act}:Ref .fail a:=trivial
theorem Ref.done {v:V}:Ref (.done v) (.done v):=rfl
def uw (c:V) (k:V→bz):bz:=
 match c with
 | .sl r g off len=> .bV r fun ⟨cq,gm,dj,iY,iG⟩=>match iG with
   | some es=> .ex (List V) (fun ys=>aN es off len=ys) fun ys=> .bS (cq=g∧dj=true∧off+len≤es.length∧V.an ys=true) (.bI r ⟨cq,gm,dj,true,iG⟩ (k (.lit gm ys)))
   | none=> .fail
 | .mp r g=> .bV r fun ⟨cq,gm,dj,iY,iG⟩=>match iG with
   | some es=> .ex (List V) (fun ys=>es=ys) fun ys=> .bS (cq=g∧gm=0∧V.an ys=true∧ys.all V.isTuple=true) (.bI r ⟨cq,gm,dj,true,iG⟩ (k (.mlit ys)))
   | none=> .fail
 | .own .. | .msl .. | .mptr .. | .any| .it .. => .fail
 | c=>k c
theorem Ref.cb {c:V} {k:V→bz} {k0:V→Act} (h: ∀v,Ref (k v) (k0 v)):Ref (uw c k) (AM.cb c k0):=by
 cases c
 case sl r g off len=>
  refine⟨_,rfl,fun ⟨gen,sz,arr,fz,es⟩=> ?_⟩
  cases es with
  | none=>trivial
  | some es=>
    rintro ys rfl hc
    simp only[hc,and_self,if_true]
    refine⟨_,by simp[hc],h _⟩
 case mp r g=>
  refine⟨_,rfl,fun ⟨gen,sz,arr,fz,es⟩=> ?_⟩
  cases es with
  | none=>trivial
  | some es=>
    rintro ys rfl hc
    simp only[hc,and_self,if_true]
    refine⟨_,by simp[hc],h _⟩
 all_goals first| exact h _| trivial
def rJ:List V→(List V→bz)→bz
 | [],k=>k []
 | c::cs,k=>uw c fun c'=>rJ cs fun cN=>k (c'::cN)
theorem Ref.dQ: ∀ {cs:List V} {k:List V→bz} {k0:List V→Act},(∀v,Ref (k v) (k0 v))→Ref (rJ cs k) (AM.dQ cs k0)
 | [],_,_,h=>h []
 | _::_,_,_,h=>Ref.cb fun v=>Ref.dQ fun vs=>h (v::vs)
def y9 (v:V) (k:V→bz):bz:=
 bif V.aC v then k v else
 match v with
 | .agg cs=>rJ cs fun cN=>k (.agg cN)
 | v=>uw v k
theorem Ref.sA {v:V} {k:V→bz} {k0:V→Act} (h: ∀v,Ref (k v) (k0 v)):Ref (y9 v k) (AM.sA v k0):=by
 unfold y9 AM.sA
 cases hp:V.aC v with
 | true=>simpa using h v
 | false=>
   simp only[cond_false,Bool.false_eq_true,if_false]
   cases v
   case agg cs=>exact Ref.dQ fun cN=>h _
   all_goals exact Ref.cb h
def F9 (vs:List V) (k:List V→bz):bz:=
 .alt (.bS (V.an vs=true) (k vs)) (match vs with
  | [v]=>y9 v fun v'=>k [v']
  | _=> .fail)
theorem Ref.gv {vs:List V} {k:List V→bz} {k0:List V→Act} (h: ∀v,Ref (k v) (k0 v)):Ref (F9 vs k) (AM.gv vs k0):=by
 unfold F9
 refine⟨?_,?_⟩
 · intro hp
   simp only[AM.gv,hp,if_true]
   exact h _
 · split
   · rename_i v
     unfold AM.gv
     by_cases hp:V.an [v]=true
     · rw[if_pos hp]
       have h1:V.aC v=true:=by simpa [V.an] using hp
       unfold y9
       simp only[h1,cond_true];exact h _
     · rw[if_neg hp]
       simp only[AM.gv.go]
       exact Ref.sA fun v'=>h _
   · trivial
end Go.AM
namespace Go.AM
def xL (f:V→(V→List Nat→bz)→bz):List V→(List V→List Nat→bz)→bz
 | [],k=>k [] []
 | c::cs,k=>f c fun c' r=>xL f cs fun cN rs=>k (c'::cN) (r++rs)
theorem Ref.oL {f:V→(V→List Nat→bz)→bz} {f0:V→(V→List Nat→Act)→Act} (hf: ∀c k k0,(∀v rs,Ref (k v rs) (k0 v rs))→Ref (f c k) (f0 c k0)):
  ∀ {cs:List V} {k:List V→List Nat→bz} {k0:List V→List Nat→Act},(∀v rs,Ref (k v rs) (k0 v rs))→Ref (xL f cs k) (AM.oL f0 cs k0)
 | [],_,_,h=>h _ _
 | _::_,_,_,h=>hf _ _ _ fun v rs=>Ref.oL hf fun vs rs'=>h _ _
def gA:Nat→V→(V→List Nat→bz)→bz
 | 0,v,k=> .bS (V.aC v=true) (k v [])
 | d+1,v,k=>bif V.aC v then k v [] else
   match v with
   | .agg cs=>xL (gA d) cs fun cN rs=>k (.agg cN) rs
   | .fn f cs=>xL (gA d) cs fun cN rs=>k (.fn f cN) rs
   | .iface t x=>gA d x fun x' rs=>k (.iface t x') rs
   | .sl r g off len=> .bV r fun ⟨cq,gm,dj,iY,iG⟩=>match iG with
     | some es=> .ex (List V) (fun ys=>aN es off len=ys) fun ys=> .bS (cq=g∧dj=true∧off+len≤es.length∧V.an ys=true) (k (.lit gm ys) [r])
     | none=> .fail
   | .ptr r g idx off=> .bV r fun ⟨cq,gm,dj,iY,iG⟩=>match iG with
     | some es=> .bS (cq=g) (match es with
       | [e]=> (match idx with| 0=>gA d e fun e' rs=>k (.eptr e' off) (r::rs) | _+1=> .fail)
       | es=> .ex V (fun e=>es[idx]? =some e) fun e=>gA d e fun e' rs=>k (.eptr e' off) (r::rs))
     | none=> .fail
   | _=> .fail
theorem Ref.fj: ∀ {d:Nat} {v:V} {k:V→List Nat→bz} {k0:V→List Nat→Act},(∀v rs,Ref (k v rs) (k0 v rs))→Ref (gA d v k) (AM.fj d v k0)
 | 0,v,k,k0,h=>by
   intro hp
   simp only[AM.fj,hp,if_true]
   exact h _ _
 | d+1,v,k,k0,h=>by
   unfold gA AM.fj
   cases hp:V.aC v with
   | true=>simpa using h v []
   | false=>
     simp only[cond_false,Bool.false_eq_true,if_false]
     cases v
     case agg cs=>exact Ref.oL (f:=gA d) (f0:=AM.fj d) (fun c k k0 h=>Ref.fj h) fun cN rs=>h _ _
     case fn f cs=>exact Ref.oL (f:=gA d) (f0:=AM.fj d) (fun c k k0 h=>Ref.fj h) fun cN rs=>h _ _
     case iface t x=>exact Ref.fj fun x' rs=>h _ _
     case sl r g off len=>
      refine⟨_,rfl,fun ⟨gen,sz,arr,fz,es⟩=> ?_⟩
      cases es with
      | none=>trivial
      | some es=>
        rintro ys rfl hc
        try simp only at hc
        simp only[hc,and_self,if_true,tV]
        exact h _ _
     case ptr r g idx off=>
      refine⟨_,rfl,fun ⟨gen,sz,arr,fz,es⟩=> ?_⟩
      cases es with
      | none=>trivial
      | some es=>
        intro hc
        try simp only at hc
        simp only[hc,if_true]
        split
        ·  rename_i e
           cases idx with
           | zero=>exact Ref.fj fun e' rs=>h _ _
           | succ n=>trivial
        ·  intro e he
           simp only[he]
           exact Ref.fj fun e' rs=>h _ _
     all_goals trivial
def eQ (   r0:Nat):List V→List (Option Nat)→Nat→(List V→List Nat→List dV→bz)→bz
 | [],_,_,k=>k [] [] []
 | v::vs,m::ms,i,k=>
   match m with
   | some sz=>match v with
     | .nils=> .bS (0 <sz) (eQ r0 vs ms (i+1) fun as rs ws=>k (.msl sz [] 0 0::as) rs (⟨i,r0+i,some sz⟩::ws))
     | .sl r g off len=> .bV r fun ⟨cq,gm,dj,iY,iG⟩=>match iG with
       | some es=> .bS (cq=g∧iY=false∧gm=sz∧off+len≤es.length∧V.an es=true)
          (eQ r0 vs ms (i+1) fun as rs ws=>k (.msl sz es off len::as) rs (⟨i,r,none⟩::ws))
       | none=> .fail
     | .ptr r g idx off=> .bV r fun ⟨cq,gm,dj,iY,iG⟩=>match iG with
       | some es=> .bS (cq=g∧iY=false∧gm=sz∧V.an es=true)
          (eQ r0 vs ms (i+1) fun as rs ws=>k (.mptr sz es idx off::as) rs (⟨i,r,none⟩::ws))
       | none=> .fail
     | _=> .fail
   | none=>gA 5 v fun v' rs=>eQ r0 vs ms (i+1) fun as rs' ws=>k (v'::as) (rs++rs') ws
 | v::vs,[],i,k=>gA 5 v fun v' rs=>eQ r0 vs [] (i+1) fun as rs' ws=>k (v'::as) (rs++rs') ws
theorem Ref.dx {r0:Nat}: ∀ {vs:List V} {ms:List (Option Nat)} {i:Nat} {k:List V→List Nat→List dV→bz} {k0:List V→List Nat→List dV→Act},
   (∀a b c,Ref (k a b c) (k0 a b c))→Ref (eQ r0 vs ms i k) (AM.dx r0 vs ms i k0)
 | [],_,_,_,_,h=>h _ _ _
 | v::vs,[],i,k,k0,h=>Ref.fj fun v' rs=>Ref.dx fun a b c=>h _ _ _
 | v::vs,none::ms,i,k,k0,h=>Ref.fj fun v' rs=>Ref.dx fun a b c=>h _ _ _
 | v::vs,some sz::ms,i,k,k0,h=>by
   unfold eQ AM.dx
   cases v
   case nils=>
    intro hc
    simp only[hc,if_true]
    exact Ref.dx fun a b c=>h _ _ _
   case sl r g off len=>
    refine⟨_,rfl,fun ⟨gen,sz,arr,fz,es⟩=> ?_⟩
    cases es with
    | none=>trivial
    | some es=>
      intro hc
      try simp only at hc
      simp only[hc,and_self,if_true]
      exact Ref.dx fun a b c=>h _ _ _
   case ptr r g idx off=>
    refine⟨_,rfl,fun ⟨gen,sz,arr,fz,es⟩=> ?_⟩
    cases es with
    | none=>trivial
    | some es=>
      intro hc
      try simp only at hc
      simp only[hc,and_self,if_true]
      exact Ref.dx fun a b c=>h _ _ _
   all_goals trivial
def lO:List Nat→bz→bz
 | [],k=>k
 | r::rs,k=> .bV r fun ⟨cq,gm,dj,iY,iG⟩=> .bI r ⟨cq,gm,dj,true,iG⟩ (lO rs k)
theorem Ref.cp: ∀ {rs:List Nat} {k:bz} {k0:Act},Ref k k0→Ref (lO rs k) (AM.cp rs k0)
 | [],_,_,h=>h
 | _::_,_,_,h=> ⟨_,rfl,fun ⟨_,_,_,_,_⟩=> ⟨_,rfl,Ref.cp h⟩⟩
def gB:List dV→List (Nat×List V)→(List (Nat×Nat×Nat)→bz)→bz
 | [],[],k=>k []
 | ⟨i,r,fresh⟩::ws,(DW,es)::outs,k=> .bV r fun ⟨cq,gm,dj,iY,iG⟩=>match fresh with
   | none=> .bI r ⟨cq+DW,gm,dj,iY,some es⟩ (gB ws outs fun gs=>k ((i,r,cq+DW)::gs))
   | some sz=> .bI r {gen:=cq+1,sz,arr:=true,fz:=false,es:=some es} (gB ws outs fun gs=>k ((i,r,cq+1)::gs))
 | _,_,_=> .fail
theorem Ref.cM: ∀ {ws:List dV} {outs:List (Nat×List V)} {k:List (Nat×Nat×Nat)→bz} {k0:List (Nat×Nat×Nat)→Act},(∀g,Ref (k g) (k0 g))→Ref (gB ws outs k) (AM.cM ws outs k0)
 | [],[],_,_,h=>h _
 | [],_::_,_,_,_=>trivial
 | _::_,[],_,_,_=>trivial
 | ⟨i,r,fresh⟩::ws,(DW,es)::outs,k,k0,h=>by
   refine⟨_,rfl,fun ⟨gen,sz,arr,fz,es'⟩=> ?_⟩
   cases fresh with
   | none=>exact⟨_,rfl,Ref.cM fun g=>h _⟩
   | some sz=>exact⟨_,rfl,Ref.cM fun g=>h _⟩
theorem Ref.bif {b:Bool} {x:bz} {a:Act} (h:Ref x a):Ref (bif b then x else .fail) (if b=true then a else .fail):=by
 cases b with
 | true=>simpa using h
 | false=>trivial
def kl (bK:Bool) (r:Nat) (gs:List (Nat×Nat×Nat)) (c:V) (k:V→bz):bz:=
 match c with
 | .own sz xs=> (match bK with
   | true=> .lN r fun g=> .bI r {gen:=g,sz,arr:=true,fz:=false,es:=some xs} (k (.sl r g 0 xs.length))
   | false=>k (.lit sz xs))
 | .sl i _ off len=>match fy i gs with
   | some (r',g')=>k (.sl r' g' off len)
   | none=> .fail
 | c=>bif V.aC c then k c else .fail
theorem Ref.bX {bK:Bool} {r:Nat} {gs:List (Nat×Nat×Nat)} {c:V} {k:V→bz} {k0:V→Act} (h: ∀v,Ref (k v) (k0 v)):Ref (kl bK r gs c k) (AM.bX bK r gs c k0):=by
 unfold kl AM.bX
 cases c
 case own sz xs=>
  cases bK with
  | true=>exact⟨_,rfl,fun o=> ⟨_,rfl,h _⟩⟩
  | false=>exact h _
 case sl i g off len=>
  simp only
  cases fy i gs with
  | none=>trivial
  | some p=>exact h _
 all_goals exact Ref.bif (h _)
def lP (bK:Bool):Nat→List (Nat×Nat×Nat)→List V→(List V→bz)→bz
 | _,_,[],k=>k []
 | r,gs,c::cs,k=>kl bK r gs c fun c'=>lP bK (r+1) gs cs fun cN=>k (c'::cN)
theorem Ref.cA {bK:Bool}: ∀ {cs:List V} {r:Nat} {gs:List (Nat×Nat×Nat)} {k:List V→bz} {k0:List V→Act},(∀v,Ref (k v) (k0 v))→Ref (lP bK r gs cs k) (AM.cA bK r gs cs k0)
 | [],_,_,_,_,h=>h _
 | _::_,_,_,_,_,h=>Ref.bX fun c'=>Ref.cA fun cN=>h _
def qn (bK:Bool) (r:Nat) (gs:List (Nat×Nat×Nat)) (v:V) (k:V→bz):bz:=
 bif V.aC v then k v else
 match v with
 | .agg cs=>lP bK r gs cs fun cN=>k (.agg cN)
 | v=>kl bK r gs v k
theorem Ref.eE {bK:Bool} {r:Nat} {gs:List (Nat×Nat×Nat)} {v:V} {k:V→bz} {k0:V→Act} (h: ∀v,Ref (k v) (k0 v)):Ref (qn bK r gs v k) (AM.eE bK r gs v k0):=by
 unfold qn AM.eE
 cases hp:V.aC v with
 | true=>simpa using h v
 | false=>
   simp only[cond_false,Bool.false_eq_true,if_false]
   cases v
   case agg cs=>exact Ref.cA fun cN=>h _
   all_goals exact Ref.bX h
def rK (bK:Bool):Nat→List (Nat×Nat×Nat)→List V→(List V→bz)→bz
 | _,_,[],k=>k []
 | r,gs,v::vs,k=>qn bK r gs v fun v'=>rK bK (r+8) gs vs fun vs'=>k (v'::vs')
theorem Ref.dU {bK:Bool}: ∀ {vs:List V} {r:Nat} {gs:List (Nat×Nat×Nat)} {k:List V→bz} {k0:List V→Act},(∀v,Ref (k v) (k0 v))→Ref (rK bK r gs vs k) (AM.dU bK r gs vs k0)
 | [],_,_,_,_,h=>h _
 | _::_,_,_,_,_,h=>Ref.eE fun c'=>Ref.dU fun cN=>h _
def dk (bK:Bool) (r:Nat) (gs:List (Nat×Nat×Nat)) (v:V) (k:V→bz):bz:=
 bif V.aC v then k v else
 match v with
 | .tuple vs=>rK bK r gs vs fun vs'=>k (.tuple vs')
 | v=>qn bK r gs v k
theorem Ref.cn {bK:Bool} {r:Nat} {gs:List (Nat×Nat×Nat)} {v:V} {k:V→bz} {k0:V→Act} (h: ∀v,Ref (k v) (k0 v)):Ref (dk bK r gs v k) (AM.cn bK r gs v k0):=by
 unfold dk AM.cn
 cases hp:V.aC v with
 | true=>simpa using h v
 | false=>
   simp only[cond_false,Bool.false_eq_true,if_false]
   cases v
   case tuple cs=>exact Ref.dU fun cN=>h _
   all_goals exact Ref.eE h
def df (E:Env) (f:Nat):List (Option Nat):=match E.fn f with
 | some af=>af.ux
 | none=> []
def lQ (E:Env) (r:Nat) (bK:Bool) (f:Nat) (args:List V):bz:=
 eQ ( r+8) args (df E f) 0 fun as rs ws=>
  .bS ((apart rs (ws.map (·.r)) &&distinct (ws.map (·.r)))=true) <| .call f as fun ⟨val,outs⟩=>
   match rs with
   | []=>gB ws outs fun gs=>dk bK r gs val .done
   | rs=>bif V.isScalar val &&outs.all (fun o=>V.bA o.2) then gB ws outs fun gs=>dk bK r gs val .done
     else lO rs (gB ws outs fun gs=>dk bK r gs val .done)
theorem Ref.rL {E:Env} {r:Nat} {bK:Bool} {f:Nat} {args:List V}:Ref (lQ E r bK f args) (AM.rL E r bK f args):=by
 unfold lQ AM.rL
 refine Ref.dx fun as rs ws=> ?_
 intro hc
 simp only[hc,if_true]
 refine⟨_,rfl,fun ⟨val,outs⟩=> ?_⟩
 have hgo:Ref (gB ws outs fun gs=>dk bK r gs val .done) (AM.cM ws outs fun gs=>AM.cn bK r gs val .done):=
   Ref.cM fun gs=>Ref.cn fun v=>rfl
 cases rs with
 | nil=>
   simp only[cp]
   split<;>exact hgo
 | cons a rs=>
   simp only
   cases hb: (V.isScalar val &&outs.all fun o=>V.bA o.2) with
   | true=>simp only[cond_true,if_true];exact hgo
   | false=>simp only[cond_false,Bool.false_eq_true,if_false];exact Ref.cp hgo
end Go.AM
namespace Go.AM
def rM (d:Nat) (o:Option V) (k:Nat→bz):bz:=match o with
 | none=>k d
 | some (.int _ n)=> .bS (0≤n) (k n.toNat)
 | some _=> .fail
theorem Ref.Ga {d:Nat} {o:Option V} {k:Nat→bz} {a:Act} (h: ∀n,bL d o=some n→Ref (k n) a):Ref (rM d o k) a:=by
 unfold rM
 split
 · exact h _ rfl
 · rename_i K n
   intro h0
   exact h _ (by simp[bL,h0])
 · trivial
def uy:List (Nat×Nat×aW)→(List (Nat×Nat×V)→bz)→bz
 | [],k=>k []
 | (off,sz,x)::ps,k=>fg x fun v=>uy ps fun vs=>k ((off,sz,v)::vs)
theorem Ref.eX: ∀ {ps:List (Nat×Nat×aW)} {k:List (Nat×Nat×V)→bz} {k0:List (Nat×Nat×V)→Act},(∀v,Ref (k v) (k0 v))→Ref (uy ps k) (AM.eX ps k0)
 | [],_,_,h=>h _
 | (_,_,_)::_,_,_,h=>Ref.ev fun v=>Ref.eX fun vs=>h _
def jJ:List V→List (Nat×Nat×V)→Option (List V)
 | cs,[]=>some cs
 | cs,(off,sz,v)::rest=>bif jG v sz &&fX cs (off+sz) then jJ (match v with
    | .agg vs=>takeN cs off++(vs++oJ cs (off+sz))
    | v=>xK cs off v) rest else none
theorem oM: ∀ {ps:List (Nat×Nat×V)} {cs out:List V},jJ cs ps=some out→dF cs ps=some out
 | [],cs,out,h=>h
 | (off,sz,v)::rest,cs,out,h=>by
   simp only[jJ] at h
   cases hb: (jG v sz &&fX cs (off+sz)) with
   | false=>simp[hb] at h
   | true=>
     simp only[hb,cond_true] at h
     simp only[Bool.and_eq_true] at hb
     have h1:=jx hb.1
     have h2:=kU hb.2
     simp only[aS,Bool.and_eq_true,beq_iff_eq] at h1
     simp only[dF]
     rw[if_pos ⟨h1.1,h2,h1.2⟩]
     have ih:=oM h
     rw[←ih]
     congr 1
     split
     · rename_i vs
       simp[V.cells,ql,qm]
     · rename_i hn
       have h3:v.cells=[v]:=by cases v<;>simp_all[V.cells]
       have h4:sz=1:=by rw[h3] at h1;simpa using h1.1.symm
       subst h4
       rw[tU,h3]
       simp[List.set_eq_take_append_cons_drop,show off<cs.length by omega]
def qo:List (Nat×aW)→(List (Nat×V)→bz)→bz
 | [],k=>k []
 | (i,x)::ps,k=>fg x fun v=>y9 v fun v=>qo ps fun vs=>k ((i,v)::vs)
theorem Ref.ee: ∀ {ps:List (Nat×aW)} {k:List (Nat×V)→bz} {k0:List (Nat×V)→Act},(∀v,Ref (k v) (k0 v))→Ref (qo ps k) (AM.ee ps k0)
 | [],_,_,h=>h _
 | (_,_)::_,_,_,h=>Ref.ev fun v=>Ref.sA fun v'=>Ref.ee fun vs=>h _
def nY (sz:Nat):Nat→List (Nat×V)→Option (List V)
 | _,[]=>some []
 | i,(j,v)::rest=>bif Nat.beq i j &&jG v sz then(match nY sz (i+1) rest with| some vs=>some (v::vs) | none=>none) else none
def fS (sz:Nat):List V→List (Nat×V)→Option (List V)
 | es,[]=>some es
 | es,(i,v)::rest=>bif fX es (i+1) &&jG v sz then fS sz (xK es i v) rest else none
theorem kG {sz:Nat}: ∀ {ps:List (Nat×V)} {es out:List V},fS sz es ps=some out→cg sz es ps=some out
 | [],cs,out,h=>h
 | (i,v)::rest,es,out,h=>by
   simp only[fS] at h
   cases hb: (fX es (i+1) &&jG v sz) with
   | false=>simp[hb] at h
   | true=>
     simp only[hb,cond_true] at h
     simp only[Bool.and_eq_true] at hb
     have h1:=jx hb.2
     have h2:=kU hb.1
     simp only[cg]
     rw[if_pos ⟨by omega,h1⟩,←tU]
     exact kG h
theorem pk {sz:Nat}: ∀ {ps:List (Nat×V)} {i:Nat} {vs pre es:List V},nY sz i ps=some vs→pre.length=i→es.length=ps.length→cg sz (pre++es) ps=some (pre++vs)
 | [],i,vs,pre,es,h,hp,he=>by
   simp only[nY,Option.some.injEq] at h
   subst h
   have:es=[]:=by simpa using he
   simp[cg,this]
 | (j,v)::rest,i,vs,pre,es,h,hp,he=>by
   simp only[nY] at h
   cases hb: (Nat.beq i j &&jG v sz) with
   | false=>simp[hb] at h
   | true=>
     simp only[hb,cond_true] at h
     simp only[Bool.and_eq_true] at hb
     have h1:=jx hb.2
     have h2:i=j:=Nat.eq_of_beq_eq_true hb.1
     subst h2
     split at h
     · rename_i vs' hv
       simp only[Option.some.injEq] at h
       subst h
       cases es with
       | nil=>simp at he
       | cons e es=>
         simp only[cg]
         rw[if_pos ⟨by simp;omega,h1⟩]
         have: (pre++e::es).set i v=(pre++[v])++es:=by
          simp[List.set_append,hp]
         rw[this,pk hv (by simp[hp]) (by simpa using he)]
         simp
     · simp at h
def mZ (sz:Nat) (x:V) (k:List V→bz):bz:=
 match x with
 | .nils=>k []
 | .lit sz' xs=>bif Nat.beq sz' sz then k xs else .fail
 | .sl r g off len=> .bV r fun ⟨cq,gm,dj,iY,iG⟩=>match iG with
   | some es=> .ex (List V) (fun ys=>aN es off len=ys) fun ys=> .bS (cq=g∧gm=sz∧off+len≤es.length) (k ys)
   | none=> .fail
 | .str s=>bif Nat.beq sz 1 then k (s.map fun b=> .int .u8 b.toNat) else .fail
 | _=> .fail
theorem Ref.content {sz:Nat} {x:V} {k:List V→bz} {k0:List V→Act} (h: ∀v,Ref (k v) (k0 v)):Ref (mZ sz x k) (AM.content sz x k0):=by
 unfold mZ AM.content
 cases x
 case nils=>exact h _
 case lit sz' xs=>
  cases hb:Nat.beq sz' sz with
  | true=>obtain rfl:=Nat.eq_of_beq_eq_true hb;simp only[if_true,hb,cond_true];exact h _
  | false=>simp only[hb,cond_false];trivial
 case str s=>
  cases hb:Nat.beq sz 1 with
  | true=>obtain rfl:=Nat.eq_of_beq_eq_true hb;simp only[if_true,hb,cond_true];exact h _
  | false=>simp only[hb,cond_false];trivial
 case sl r g off len=>
  refine⟨_,rfl,fun ⟨gen,sz,arr,fz,es⟩=> ?_⟩
  cases es with
  | none=>trivial
  | some es=>
    rintro ys rfl hc
    try simp only at hc
    simp only[hc,and_self,if_true]
    exact h _
 all_goals trivial
def lR ( r sz kb:Nat) (s:V) (ys:List V):bz:=
 .bS (ys.all (aS · sz)=true) <| bif Nat.ble 1 sz then
 match s with
 | .nils=>match ys with
   | [y]=> .bS (1≤kb) (.lN r fun g=> .bI r {gen:=g,sz,arr:=true,fz:=false,es:=some [y]} (.done (.sl r g 0 1)))
   | ys=> .ite ys.isEmpty (.done .nils) (.bS (ys.length≤kb) (.lN r fun g=> .bI r {gen:=g,sz,arr:=true,fz:=false,es:=some ys} (.done (.sl r g 0 ys.length))))
 | .lit sz' xs=> .bS (ys=[]) (.done (.lit sz' xs))
 | .sl r' g off len=> .bV r' fun ⟨cq,gm,dj,iY,iG⟩=>match iG with
   | some es=> .bS (cq=g∧dj=true∧iY=false∧gm=sz) <| .alt
      (.bS (off=0∧es.length=len∧len+ys.length≤kb) (.all fun g'=> .bI r' {gen:=g',sz,arr:=true,fz:=false,es:=some (es++ys)} (.done (.sl r' g' 0 (len+ys.length)))))
      (.bS (off+len≤es.length∧len+ys.length≤kb) (.ite (decide (off+len+ys.length≤es.length))
        (.bI r' ⟨cq,gm,dj,iY,some (overwrite es (off+len) ys)⟩ (.done (.sl r' g off (len+ys.length))))
        (.bI r' ⟨g+1,gm,dj,iY,some (aN es off len++ys)⟩ (.done (.sl r' (g+1) 0 (len+ys.length))))))
   | none=> .fail
 | _=> .fail
 else .fail
theorem Ref.append {r sz kb:Nat} {s:V} {ys:List V}:Ref (lR r sz kb s ys) (ur r sz kb s ys):=by
 intro hy
 cases hb:Nat.ble 1 sz with
 | false=>simp only[cond_false];trivial
 | true=>
   have hs:0 <sz:=Nat.le_of_ble_eq_true hb
   have hg: (ys.all (aS · sz) &&decide (0 <sz))=true:=by simp only[Bool.and_eq_true,decide_eq_true_eq];exact⟨hy,hs⟩
   simp only[cond_true,ur,hg,if_true]
   cases s
   case nils=>
    simp only
    split
    · rename_i y
      intro hl
      simp only[List.isEmpty_cons,Bool.false_eq_true,if_false,List.length_cons,List.length_nil,Nat.zero_add,hl,if_true]
      exact⟨_,rfl,fun o=> ⟨_,rfl,rfl⟩⟩
    · refine⟨fun he=> ?_,fun he=> ?_⟩
      · simp only[he,if_true];exact rfl
      ·  intro hl
         simp only[he,Bool.false_eq_true,if_false,hl,if_true]
         exact⟨_,rfl,fun o=> ⟨_,rfl,rfl⟩⟩
   case lit sz' xs=>
    intro he
    simp only[he,List.isEmpty_nil,if_true];exact rfl
   case sl r' g off len=>
    refine⟨_,rfl,fun ⟨gen,sz',arr,fz,es⟩=> ?_⟩
    cases es with
    | none=>trivial
    | some es=>
      intro hc
      obtain⟨rfl,rfl,rfl,rfl⟩:=hc
      refine⟨?_,?_⟩
      ·  rintro⟨rfl,rfl,hl⟩
         simp only[Nat.zero_add,Nat.le_refl,hl,and_self,if_true]
         by_cases hn:ys=[]
         · subst hn
           refine⟨gen,?_⟩
           simp only[List.append_nil,List.length_nil,Nat.add_zero,Nat.le_refl,if_true,overwrite,List.take_length,List.drop_length]
           exact⟨_,rfl,rfl⟩
         · have hp:0 <ys.length:=List.length_pos_iff.2 hn
           refine⟨gen+1,?_⟩
           rw[if_neg (by omega)]
           simp only[aN,List.drop_zero,List.take_length]
           exact⟨_,rfl,rfl⟩
      ·  rintro⟨h1,h2⟩
         simp only[h1,h2,and_self,if_true]
         refine⟨fun hd=> ?_,fun hd=> ?_⟩
         · simp only[decide_eq_true_eq] at hd
           rw[if_pos hd]
           exact⟨_,rfl,rfl⟩
         · simp only[decide_eq_false_iff_not] at hd
           rw[if_neg hd]
           exact⟨_,rfl,rfl⟩
   all_goals trivial
def MX (op:BinOp) (x y:V):bz:=
 match x,y with
 | .int k a,.int k' b=>
   match op with
   | .shl=> .bS (0≤b) (.done (.int k (k.wrap (a*2 ^ (min b.toNat k.bits)))))
   | .shr=> .bS (0≤b) (.done (.int k (a.fdiv (2 ^ (min b.toNat k.bits)))))
   | .quo=> .bS (k=k'∧b≠0) (.done (.int k (k.wrap (a.tdiv b))))
   | .rem=> .bS (k=k'∧b≠0) (.done (.int k (a.tmod b)))
   | .and=> .bS (k=k') (jI (km .and k a b))
   | .or=> .bS (k=k') (jI (km .or k a b))
   | .xor=> .bS (k=k') (jI (km .xor k a b))
   | .andNot=> .bS (k=k') (jI (km .andNot k a b))
   | .add=>bif decide (k=k') then .done (.int k (k.wrap (a+b))) else .fail
   | .sub=>bif decide (k=k') then .done (.int k (k.wrap (a - b))) else .fail
   | .mul=>bif decide (k=k') then .done (.int k (k.wrap (a*b))) else .fail
   | .eql=>bif decide (k=k') then .done (.bool (decide (a=b))) else .fail
   | .neq=>bif decide (k=k') then .done (.bool (!decide (a=b))) else .fail
   | .lss=>bif decide (k=k') then .done (.bool (decide (a<b))) else .fail
   | .leq=>bif decide (k=k') then .done (.bool (decide (a≤b))) else .fail
   | .gtr=>bif decide (k=k') then .done (.bool (decide (b<a))) else .fail
   | .geq=>bif decide (k=k') then .done (.bool (decide (b≤a))) else .fail
 | .str a,.str b=>
   match op with
   | .add=> .bS (a.length+b.length≤9223372036854775807) (.done (.str (a++b)))
   | .eql=> .done (.bool (decide (a=b)))
   | .neq=> .done (.bool (!decide (a=b)))
   | .lss=> .done (.bool (Op.bytesLess a b))
   | .leq=> .done (.bool (Op.bytesLess a b || decide (a=b)))
   | .gtr=> .done (.bool (!(Op.bytesLess a b || decide (a=b))))
   | .geq=> .done (.bool (!Op.bytesLess a b))
   | _=> .fail
 | _,_=> .fail
theorem Ref.Gb {b:Bool} {x:bz} {a:Act} (h:b=true→Ref x a):Ref (bif b then x else .fail) a:=by
 cases b with
 | true=>simpa using h rfl
 | false=>trivial
theorem Ref.bin {op:BinOp} {x y:V}:Ref (MX op x y) (AM.cT (b7 op x y)):=by
 unfold MX
 split
 · rename_i k a k' b
   split
   case h_1=>intro h;simp[b7,show ¬b< 0 by omega,AM.cT,Ref]
   case h_2=>intro h;simp[b7,show ¬b< 0 by omega,AM.cT,Ref]
   case h_3=>intro h;simp[b7,h.1,h.2,AM.cT,Ref]
   case h_4=>intro h;simp[b7,h.1,h.2,AM.cT,Ref]
   case h_5=>intro h;simp only[b7,h,if_true];exact Ref.fA
   case h_6=>intro h;simp only[b7,h,if_true];exact Ref.fA
   case h_7=>intro h;simp only[b7,h,if_true];exact Ref.fA
   case h_8=>intro h;simp only[b7,h,if_true];exact Ref.fA
   all_goals exact Ref.Gb fun h=>by simp only[decide_eq_true_eq] at h;simp[b7,h,AM.cT,Ref,dw,qk,bne]
 · rename_i a b
   split
   case h_1=>intro h;simp[b7,h,AM.cT,Ref]
   case h_8=>trivial
   all_goals simp[b7,AM.cT,Ref]
 · trivial
def MY (neg:Bool) (a b:V):bz:=
 match a,b with
 | .nilp,.nilp=> .done (.bool (true !=neg))
 | .nilp,.eptr .. | .nilp,.epk .. | .eptr ..,.nilp| .epk ..,.nilp=> .done (.bool (false !=neg))
 | .epk i z _ 0,.epk i' z' _ 0=> .bS (z=z'∧0 <z) (.done (.bool ((i==i') !=neg)))
 | _,_=> .fail
theorem Ref.MZ {neg:Bool} {a b:V}:Ref (MY neg a b) (AM.cT ((CL a b).map fun c=> .bool (c !=neg))):=by
 unfold MY
 split
 all_goals first| exact rfl| trivial| skip
 intro h
 obtain⟨rfl,hz⟩:=h
 simp only[CL,hz,and_self,if_true,Option.map_some]
 exact rfl
def M0 (sz:Nat) (v i:V):bz:=
 match v,i with
 | .sl r g off len,.int _ n=> .bV r fun ⟨cq,gm,dj,iY,iG⟩=> .bS (0≤n∧n<len∧gm=sz∧cq=g) (match off with
   | 0=> .done (.ptr r g n.toNat 0)
   | off=> .done (.ptr r g (off+n.toNat) 0))
 | .lit sz' xs,.int _ n=> .bS (0≤n∧sz'=sz) (.ex V (fun e=>xs[n.toNat]? =some e) fun e=> .done (.eptr e 0))
 | .litk sz' xs,.int _ n=> .bS (0≤n∧sz'=sz∧0 <sz) (.ex V (fun e=>xs[n.toNat]? =some e) fun e=> .done (.epk n.toNat sz e 0))
 | _,_=> .fail
theorem Ref.idx {sz:Nat} {v i:V}:Ref (M0 sz v i) (ib sz v i):=by
 unfold M0
 split
 · refine⟨_,rfl,fun ⟨gen,sz',arr,fz,es⟩=> ?_⟩
   intro h
   try simp only at h
   simp only[h,and_self,if_true]
   split
   · simp[Ref]
   · exact rfl
 · intro h e he
   simp only[ib,h,and_self,if_true,he]
   exact rfl
 · intro h e he
   obtain⟨h1,rfl,h3⟩:=h
   simp only[ib,h1,h3,and_self,if_true,he]
   exact rfl
 · trivial
def M1 (sz:Nat) (v:V) (l h m:Option V):bz:=
 match m with
 | some mx=> (match v,h with
   | .sl r g off len,some hv=> .bV r fun ⟨cq,gm,dj,iY,iG⟩=>match iG with
     | some es=> .bS (cq=g∧gm=sz) <| rM 0 l fun l=>rM len (some hv) fun h=>rM 0 (some mx) fun m=> .bS (l≤h∧h≤m∧off+m≤es.length∧m≠l) (.done .any)
     | none=> .fail
   | _,_=> .fail)
 | none=>match v with
   | .sl r g off len=> .bV r fun ⟨cq,gm,dj,iY,iG⟩=>match iG with
     | some es=> .bS (cq=g∧gm=sz) <| rM 0 l fun l=>rM len h fun h=> .bS (l≤h∧off+h≤es.length) (.done (.sl r g (off+l) (h - l)))
     | none=> .fail
   | .lit sz' xs=> .bS (sz'=sz) <| rM 0 l fun l=>rM xs.length h fun h=> .bS (l≤h∧h≤xs.length) (.ex (List V) (fun ys=>aN xs l (h - l)=ys) fun ys=> .done (.lit sz ys))
   | .nils=>rM 0 l fun l=>rM 0 h fun h=> .bS (l≤h∧h≤0) (.done .nils)
   | _=> .fail
theorem Ref.slc {sz:Nat} {v:V} {l h m:Option V}:Ref (M1 sz v l h m) (pj sz v l h m):=by
 unfold M1
 split
 · split
   · rename_i mx _ _ r g off len hv
     refine⟨_,rfl,fun ⟨gen,sz',arr,fz,es⟩=> ?_⟩
     cases es with
     | none=>trivial
     | some es=>
       intro hc
       try simp only at hc
       simp only[hc,and_self,if_true]
       refine Ref.Ga fun l' hl=>Ref.Ga fun h' hh=>Ref.Ga fun m' hm=> ?_
       intro hk
       simp only[hl,hh,hm,hk,and_self,if_true,if_false]
       exact rfl
   · trivial
 · split
   · rename_i r g off len
     refine⟨_,rfl,fun ⟨gen,sz',arr,fz,es⟩=> ?_⟩
     cases es with
     | none=>trivial
     | some es=>
       intro hc
       try simp only at hc
       simp only[hc,and_self,if_true]
       refine Ref.Ga fun l' hl=>Ref.Ga fun h' hh=> ?_
       intro hk
       simp only[hl,hh,hk,and_self,if_true]
       exact rfl
   · rename_i sz' xs
     intro hc
     refine Ref.Ga fun l' hl=>Ref.Ga fun h' hh=> ?_
     rintro hk ys rfl
     simp only[pj,jD,hc,if_true,hl,hh,hk,and_self,AM.cT]
     exact rfl
   · refine Ref.Ga fun l' hl=>Ref.Ga fun h' hh=> ?_
     intro hk
     have h1:bL 0 none=some 0:=rfl
     simp only[pj,jD,hl,hh,h1,hk.1,hk.2,Option.isNone_none,AM.cT,Nat.le_refl,and_self,or_true,if_true]
     exact rfl
   · trivial
def rN (x:V) (lo hi:Option V):bz:=
 match x with
 | .str s=>rM 0 lo fun l=>rM s.length hi fun h=> .bS (l≤h∧h≤s.length) (.done (.str ((s.drop l).take (h - l))))
 | _=> .fail
theorem Ref.jK {x:V} {l h:Option V}:Ref (rN x l h) (AM.cT (eS x l h)):=by
 unfold rN
 split
 · refine Ref.Ga fun l' hl=>Ref.Ga fun h' hh=> ?_
   intro hk
   simp only[eS,hl,hh,hk,and_self,if_true,AM.cT]
   exact rfl
 · trivial
def xM (agg:Bool) (sz r g idx off:Nat) (v:V):bz:=
 .bV r fun ⟨cq,gm,dj,iY,iG⟩=>match iG with
  | some es=> .bS (cq=g∧iY=false) <| (match dj with
    | true=> .ex V (fun e=>es[idx]? =some e) fun e=>F8 agg off sz e v fun e'=> .bI r ⟨cq,gm,dj,iY,some (es.set idx e')⟩ (.done (.tuple []))
    | false=>match es,idx with
      | [e],0=>F8 agg off sz e v fun e'=> .bI r ⟨cq,gm,dj,iY,some [e']⟩ (.done (.tuple []))
      | es,idx=> .ex V (fun e=>es[idx]? =some e) fun e=>F8 agg off sz e v fun e'=> .bI r ⟨cq,gm,dj,iY,some (es.set idx e')⟩ (.done (.tuple [])))
  | none=> .fail
theorem Ref.kj {agg:Bool} {sz r g idx off:Nat} {v:V}:Ref (xM agg sz r g idx off v) (av.kj agg sz r g idx off v):=by
 unfold xM av.kj
 simp only[I8]
 refine⟨_,rfl,fun ⟨gen,sz',arr,fz,es⟩=> ?_⟩
 cases es with
 | none=>trivial
 | some es=>
   intro hc
   try simp only at hc
   simp only[hc,and_self,if_true]
   have DX:Ref (.ex V (fun e=>es[idx]? =some e) fun e=>match iP agg off sz e v with
       | some e'=> .bI r ⟨gen,sz',arr,fz,some (es.set idx e')⟩ (.done (.tuple []))
       | none=> .fail) (match es[idx]? with
         | some e=>match da agg off sz e v with
           | some e'=> .bI r {gen:=gen,sz:=sz',arr:=arr,fz:=fz,es:=some (es.set idx e')} (.done (.tuple []))
           | none=> .fail
         | none=> .fail):=by
     intro e he
     simp only[he]
     cases hp:iP agg off sz e v with
     | none=>trivial
     | some e'=>simp only[sB hp];exact⟨_,rfl,rfl⟩
   rw[hc.1,hc.2] at DX
   cases arr with
   | true=>exact DX
   | false=>
     simp only
     split
     · rename_i e
       simp only[List.getElem?_cons_zero]
       cases hp:iP agg off sz e v with
       | none=>trivial
       | some e'=>simp only[sB hp];exact⟨_,rfl,rfl⟩
     · exact DX
def rO:List (Nat×aW)→(List (Nat×V)→bz)→bz
 | [],k=>k []
 | (i,x)::ps,k=>fg x fun v=>rO ps fun vs=>k ((i,v)::vs)
theorem Ref.iQ: ∀ {ps:List (Nat×aW)} {k:List (Nat×V)→bz} {k0:List (Nat×V)→Act},(∀v,Ref (k v) (k0 v))→Ref (rO ps k) (AM.iQ ps k0)
 | [],_,_,h=>h _
 | (i,x)::ps,_,_,h=>Ref.ev fun v=>Ref.iQ fun vs=>h _
def Bi (r sz:Nat) (zero:V) (n:Nat) (ps:List (Nat×V)):bz:=
 bif jG zero sz &&Nat.ble 1 sz &&Nat.ble (n*sz) 16777216 then(match (bif eY ps n then nY sz 0 ps else none) with
  | some es=> .lN r fun g=> .bI r {gen:=g,sz,arr:=true,fz:=false,es:=some es} (.done (.sl r g 0 n))
  | none=>match fS sz (List.replicate n zero) ps with
    | some es=> .lN r fun g=> .bI r {gen:=g,sz,arr:=true,fz:=false,es:=some es} (.done (.sl r g 0 n))
    | none=> .fail) else .fail
def op2 (E:Env):rA→bz
 | .move x=>fg x .done
 | .pick c a b=>fg c fun| .bool c=> .ite c (fg a .done) (fg b .done) | _=> .fail
 | .new r sz x=>fg x fun v=>bif jG v sz &&Nat.ble 1 sz then .lN r fun g=> .bI r {gen:=g,sz,arr:=false,fz:=false,es:=some [v]} (.done (.ptr r g 0 0)) else .fail
 | .build cells parts=>uy parts fun ps=>match jJ cells ps with
   | some cs=>force cs fun cs=> .done (.agg cs)
   | none=> .fail
 | .buildSlice r sz zero n parts=>qo parts fun ps=>bif jG zero sz &&Nat.ble 1 sz &&Nat.ble (n*sz) 16777216 then(match (bif eY ps n then nY sz 0 ps else none) with
   | some es=> .lN r fun g=> .bI r {gen:=g,sz,arr:=true,fz:=false,es:=some es} (.done (.sl r g 0 n))
   | none=>match fS sz (List.replicate n zero) ps with
     | some es=> .lN r fun g=> .bI r {gen:=g,sz,arr:=true,fz:=false,es:=some es} (.done (.sl r g 0 n))
     | none=> .fail) else .fail
 | .cr r sz=>bif Nat.ble 1 sz then .lN r fun g=> .bI r {gen:=g,sz,arr:=true,fz:=false,es:=some []} (.done (.sl r g 0 0)) else .fail
 | .m7 r x=>fg x fun
   | .sl r1 g off len=>bif Nat.beq r1 r then .done (.sl r1 g off len) else .bV r1 fun ⟨cq,gm,dj,iY,iG⟩=> .bS (cq=g) (.lN r fun g'=>
       .bI r ⟨g',gm,dj,iY,iG⟩ (.bI r1 ⟨cq+1,gm,dj,iY,none⟩ (.done (.sl r g' off len))))
   | v=> .done v
 | .makeSlice r sz bytes zero len cap=>fg len fun l=>fg cap fun c=>match l,c with
   | .int _ n,.int _ m=> .bS (0≤n∧n≤m∧m*bytes≤140737488355328∧aS zero sz=true∧0 <sz∧m≤9223372036854775807)
       (.lN r fun g=> .bI r {gen:=g,sz,arr:=true,fz:=false,es:=some (List.replicate m.toNat zero)} (.done (.sl r g 0 n.toNat)))
   | _,_=> .fail
 | .load agg sz x=>fg x fun
   | .ptr r g idx off=> .bV r fun ⟨cq,gm,dj,iY,iG⟩=>match iG with
     | some es=> .bS (cq=g) (match dj with
       | true=> .ex V (fun e=>es[idx]? =some e) fun e=>oK agg off sz e
       |  false=>match es,idx with
          | [e],0=>oK agg off sz e
          | es,idx=> .ex V (fun e=>es[idx]? =some e) fun e=>oK agg off sz e)
     | none=> .fail
   | .eptr e off=>oK agg off sz e
   | .epk _ _ e off=>oK agg off sz e
   | _=> .fail
 | .store agg sz x v=>fg x fun
   | .ptr r g idx off=> .bV r fun ⟨cq,gm,dj,iY,iG⟩=>match dj with
     | true=>fg v fun v=>y9 v fun v=>xM agg sz r g idx off v
     | false=>fg v fun v=>xM agg sz r g idx off v
   | _=> .fail
 | .nilCheck x=>fg x fun
   | .ptr r g idx off=> .done (.ptr r g idx off)
   | .eptr e off=> .done (.eptr e off)
   | .epk i z e off=> .done (.epk i z e off)
   | .fn f caps=> .done (.fn f caps)
   | _=> .fail
 | .bin op x y=>fg x fun a=>fg y fun b=>MX op a b
 | .qp neg x y=>fg x fun a=>fg y fun b=>match a,b with
   | .bool a,.bool b=> .done (.bool ((a==b) !=neg))
   | _,_=> .fail
 | .rP neg ks x y=>fg x fun a=>fg y fun b=>match a,b with
   | .agg as,.agg bs=>match eV ks as bs with
       | some b=> .done (.bool (b !=neg))
       | none=> .fail
   | _,_=> .fail
 | .un op x=>fg x fun a=>jI (Bf op a)
 | .ef k x=>fg x fun| .int _ n=> .done (.int k (k.wrap n)) | _=> .fail
 | .rQ x=>fg x fun| .int _ n=> .done (.float (FloatKind.f64.nearest n)) | _=> .fail
 | .rR k x=>fg x fun
   | .float b=> .ex Int (fun n=> (FloatKind.f64.decode b).toInt .zero=some n∧k.min≤n∧n≤k.max) fun n=> .done (.int k n)
   | _=> .fail
 | .qq x=>fg x fun| .str s=> .done (.str s) | _=> .fail
 | .jo t x=>fg x fun v=> .done (.iface t v)
 | .assert t ok zero x=>fg x fun
   | .nili=>match ok with| true=> .done (.tuple [zero,.bool false]) | false=> .fail
   | .iface t' v=>bif Nat.beq t' t then(match ok with| true=> .done (.tuple [v,.bool true]) | false=> .done v) else(match ok with| true=> .done (.tuple [zero,.bool false]) | false=> .fail)
   | _=> .fail
 | .ie f caps=>DU caps fun vs=> .done (.fn f vs)
 | .jK x lo hi=>fg x fun v=>DV lo fun l=>DV hi fun h=>rN v l h
 | .slice sz x lo hi mx=>fg x fun v=>DV lo fun l=>DV hi fun h=>DV mx fun m=>M1 sz v l h m
 | .fieldAddr off x=>fg x fun
   | .ptr r g idx o=> .done (.ptr r g idx (o+off))
   | .eptr e o=> .done (.eptr e (o+off))
   | .epk i z e o=> .done (.epk i z e (o+off))
   | _=> .fail
 | .field agg off sz x=>fg x fun
   | .agg cs=>oK agg off sz (.agg cs)
   | _=> .fail
 | .indexAddr sz x i=>fg x fun v=>fg i fun i=>M0 sz v i
 | .aU n sz x i=>fg x fun v=>fg i fun i=>match v,i with
   | .ptr r g idx off,.int _ j=> .bS (0≤j∧j<n) (.done (.ptr r g idx (off+j.toNat*sz)))
   | .eptr e off,.int _ j=> .bS (0≤j∧j<n) (.done (.eptr e (off+j.toNat*sz)))
   | _,_=> .fail
 | .jL x i=>fg x fun v=>fg i fun i=>match v,i with
   | .str s,.int _ n=> .bS (0≤n) (.ex UInt8 (fun b=>s[n.toNat]? =some b) fun b=> .done (.int .u8 b.toNat))
   | _,_=> .fail
 | .m8 agg n sz x i=>fg x fun v=>fg i fun i=>match i with
   | .int _ j=> .bS (0≤j∧j<n∧v.isAgg=true) (.ex V (fun e=>part agg (j.toNat*sz) sz v=some e) fun e=> .done e)
   | _=> .fail
 | .len x=>fg x fun v=>jI (oD v)
 | .uz x=>fg x fun| .str s=> .done (.int .i64 s.length) | _=> .fail
 | .min xs=>DU xs fun vs=>jI (gY min2 vs)
 | .max xs=>DU xs fun vs=>jI (gY max2 vs)
 | .append r sz kb s x=>fg s fun s=>fg x fun x=>mZ sz x fun ys=>F9 ys fun ys=>lR r sz kb s ys
 | .copy sz d s=>fg d fun d=>fg s fun s=>mZ sz s fun ys=>match d with
   | .nils=> .done (.int .i64 0)
   | .sl r g off len=> .bV r fun ⟨cq,gm,dj,iY,iG⟩=>match iG with
     | some es=>
       .bS (cq=g∧dj=true∧iY=false∧gm=sz∧off+len≤es.length∧(ys.take len).all (aS · sz)=true)
          (.bI r ⟨cq,gm,dj,iY,some (overwrite es off (ys.take len))⟩ (.done (.int .i64 (ys.take len).length)))
     | none=> .fail
   | _=> .fail
 | .clear sz zero x=>fg x fun
   | .nils=> .done (.tuple [])
   | .sl r g off len=> .bV r fun ⟨cq,gm,dj,iY,iG⟩=>match iG with
     | some es=> .bS (cq=g∧dj=true∧iY=false∧gm=sz∧off+len≤es.length∧aS zero sz=true)
          (.bI r ⟨cq,gm,dj,iY,some (overwrite es off (List.replicate len zero))⟩ (.done (.tuple [])))
     | none=> .fail
   | _=> .fail
 | .extract x i=>fg x fun
   | .tuple vs=>jI (nth vs i)
   | _=> .fail
 | .call r bK f args=>fg f fun
   | .fn f caps=>DU args fun as=>lQ E r bK f (as++caps)
   | _=> .fail
 | .fY i r sz zero n parts=>fg (.tmp i) fun
   | .int _ j=>qo parts fun ps=>Bi (r+16*j.toNat) sz zero n ps
   | _=> .fail
 | .fZ r sz zero n parts=>rO parts fun ps=>Bi r sz zero n ps
 | .lS r sz kb s x=>fg s fun s=>fg x fun x=>mZ sz x fun ys=>lR r sz kb s ys
 | .deep x=>fg x fun v=> .Tn (lT v)
 | .sC ks agg sz x=>fg x fun
   | .ptr r g idx off=> .bV r fun ⟨cq,gm,dj,iY,iG⟩=>match iG with
     | some es=> .bS (cq=g) (match es,idx with
       | [e],0=>jI ((uv agg off sz e).map (A5 ks))
       | _,_=> .fail)
     | none=> .fail
   | _=> .fail
 | .mkMap r=> .lN r fun g=> .bI r {gen:=g,sz:=0,arr:=false,fz:=false,es:=some []} (.done (.mp r g))
 | .rS q x k v=>fg x fun
   | .mp r g=>fg k fun k=>fg v fun v=>y9 v fun v=> .bV r fun ⟨cq,gm,dj,iY,iG⟩=>match iG with
     | some es=> .bS (cq=g∧gm=0∧iY=false∧isKey q k=true∧v.c6=true) (.ex (List V) (fun es'=>m9 k v es=some es') fun es'=>
          .bI r ⟨cq,gm,dj,iY,some es'⟩ (.done (.tuple [])))
     | none=> .fail
   | _=> .fail
 | .uA q ok zero x k=>fg x fun x=>fg k fun k=> .bS (isKey q k=true) (match x with
   | .mp r g=> .bV r fun ⟨cq,gm,dj,iY,iG⟩=>match iG with
     | some es=> .bS (cq=g∧gm=0) (.ex V (fun v=>jq ok zero es k= .done v) fun v=> .done v)
     | none=> .fail
   | .mlit es=> .ex V (fun v=>jq ok zero es k= .done v) fun v=> .done v
   | _=> .fail)
 | .xN x=>fg x fun v=> (match v with
   | .fn .. =>gA 5 v fun v' rs=>lO rs (.done v')
   | _=>y9 v .done)
 | .qt r x=>fg x fun
   | .str s=> .lN r fun g=> .bI r {gen:=g,sz:=0,arr:=false,fz:=false,es:=some [.str s,.int .i64 0]} (.done (.it r g))
   | _=> .fail
 | .qu x=>   fg x fun
   | .it r g=> .bV r fun ⟨cq,gm,dj,iY,iG⟩=>match iG with
     | some [.str s,.int .i64 p]=> .bS (cq=g∧gm=0∧iY=false) (.ite (decide (p.toNat<s.length))
          (.bI r ⟨cq,gm,dj,iY,some [.str s,.int .i64 ((p.toNat+(Utf8.decode ⟨s.toArray⟩ p.toNat).2:Nat):Int)]⟩
            (.done (.tuple [.bool true,.int .i64 (p.toNat:Int),.int .i32 ((Utf8.decode ⟨s.toArray⟩ p.toNat).1:Int)])))
          (.done (.tuple [.bool false])))
     | _=> .fail
   | _=> .fail
 | .To neg ks x y=>fg x fun a=>fg y fun b=>match a,b with
   | .iface t p,.iface t' q=>bif Nat.beq t t' then(match pn t ks with
       |  some k=> (match v8 k p q with
          | some b=> .done (.bool (b !=neg))
          | none=> .fail)
       | none=> .fail) else .fail
   | .nili,.iface _ _=> .done (.bool neg)
   | .iface _ _,.nili=> .done (.bool neg)
   | _,_=> .fail
 | .MZ neg x y=>fg x fun a=>fg y fun b=>MY neg a b
 | .mapIter r x=>fg x fun
   | .mlit es=> .lN r fun g=> .bI r {gen:=g,sz:=0,arr:=false,fz:=false,es:=some [.mlit es]} (.done (.it r g))
   | _=> .fail
 | .bad=> .fail
theorem Ref.Lr {r sz:Nat} {zero:V} {n:Nat} {ps:List (Nat×V)}:Ref (Bi r sz zero n ps) (match cg sz (List.replicate n zero) ps with
   | some es=>if aS zero sz &&decide (0 <sz∧n*sz≤16777216) then AM.Act.bV r fun o=>AM.Act.bI r {gen:=o.gen+1,sz,arr:=true,fz:=false,es:=some es} (.done (.sl r (o.gen+1) 0 n)) else AM.Act.fail
   | none=>AM.Act.fail):=by
 refine Ref.Gb fun h=> ?_
 simp only[Bool.and_eq_true] at h
 have h1:=jx h.1.1
 have h2:0 <sz:=Nat.le_of_ble_eq_true h.1.2
 have h3:n*sz≤16777216:=Nat.le_of_ble_eq_true h.2
 split
 · rename_i es he
   have hl:eY ps n=true:=by
     cases hb:eY ps n with
     | true=>rfl
     | false=>simp[hb] at he
   simp only[hl,cond_true] at he
   have h4:=pk (pre:=[]) (es:=List.replicate n zero) he rfl (by simp[jF hl])
   simp only[List.nil_append] at h4
   simp only[h4,h1,h2,h3,and_self,decide_true,Bool.and_self,if_true]
   exact⟨_,rfl,fun o=> ⟨_,rfl,rfl⟩⟩
 · cases hf:fS sz (List.replicate n zero) ps with
   | none=>trivial
   | some es=>
     simp only[kG hf,h1,h2,h3,and_self,decide_true,Bool.and_self,if_true]
     exact⟨_,rfl,fun o=> ⟨_,rfl,rfl⟩⟩
theorem Ref.op {E:Env} {o:rA}:Ref (op2 E o) (av E o):=by
 cases o with
 | fY i r sz zero n parts=>
   refine⟨_,rfl,fun v=> ?_⟩
   cases v<;>first| trivial| skip
   exact Ref.ee fun ps=>Ref.Lr
 | fZ r sz zero n parts=>exact Ref.iQ fun ps=>Ref.Lr
 | mkMap r=>exact⟨_,rfl,fun o=> ⟨_,rfl,rfl⟩⟩
 | qt r x=>
   refine Ref.ev fun v=> ?_
   cases v<;>first| trivial| exact⟨_,rfl,fun o=> ⟨_,rfl,rfl⟩⟩
 | qu x=>
   refine Ref.ev fun v=> ?_
   cases v<;>first| trivial| skip
   refine⟨_,rfl,fun ⟨gen,sz,arr,fz,es⟩=> ?_⟩
   simp only
   split
   · intro hc
     obtain⟨rfl,rfl,rfl⟩:=hc
     simp only[and_self,if_true]
     refine⟨fun he=> ?_,fun he=> ?_⟩
     · rw[if_pos (by simpa using he)];exact⟨_,rfl,rfl⟩
     · rw[if_neg (by simpa using he)];exact rfl
   · trivial
 | xN x=>
   refine Ref.ev fun v=> ?_
   cases v with
   | fn f caps=>exact Ref.fj fun v' rs=>Ref.cp rfl
   | _=>exact Ref.sA fun v=>rfl
 | rS q x k v=>
   refine Ref.ev fun x=> ?_
   cases x<;>first| trivial| skip
   refine Ref.ev fun k=>Ref.ev fun v=>Ref.sA fun v=> ⟨_,rfl,fun ⟨gen,sz,arr,fz,es⟩=> ?_⟩
   cases es with
   | none=>trivial
   | some es=>
     rintro hc es' he
     simp only[hc,he,and_self,if_true]
     exact⟨_,by simp[hc],rfl⟩
 | uA q ok zero x k=>
   refine Ref.ev fun x=>Ref.ev fun k=> ?_
   intro hk
   simp only[hk,if_true]
   cases x<;>first| trivial| skip
   case mp r g=>
     refine⟨_,rfl,fun ⟨gen,sz,arr,fz,es⟩=> ?_⟩
     cases es with
     | none=>trivial
     | some es=>
       rintro hc v hv
       show (if gen=g∧sz=0 then jq ok zero es k else Act.fail)= .done v
       rw[if_pos hc]
       exact hv
   case mlit es=>
     rintro v hv
     exact hv
 | lS r sz kb s x=>exact Ref.ev fun s=>Ref.ev fun x=>Ref.content fun ys=>Ref.append
 | deep=>exact Ref.ev fun v=>rfl
 | sC ks agg sz x=>
   refine Ref.ev fun v=> ?_
   cases v<;>first| trivial| skip
   case ptr r g idx off=>
     refine⟨_,rfl,fun ⟨gen,sz',arr,fz,es⟩=> ?_⟩
     cases es with
     | none=>trivial
     | some es=>
       intro hc
       try simp only at hc
       simp only[hc,if_true]
       split
       · simp only[List.getElem?_cons_zero]
         exact Ref.cT fun v hv=>by
          obtain⟨v0,h0,rfl⟩:=Option.map_eq_some_iff.1 hv
          rw[jH h0];rfl
       · trivial
 | move x=>exact Ref.ev fun v=>rfl
 | pick c a b=>
   refine Ref.ev fun v=> ?_
   cases v
   case bool c=>cases c with
     | true=>exact⟨fun _=>Ref.ev (fun v=>rfl),fun h=> (by cases h)⟩
     | false=>exact⟨fun h=> (by cases h),fun _=>Ref.ev (fun v=>rfl)⟩
   all_goals trivial
 | new r sz x=>
   refine Ref.ev fun v=>Ref.Gb fun h=> ?_
   simp only[Bool.and_eq_true] at h
   have h1:=jx h.1
   have h2:0 <sz:=Nat.le_of_ble_eq_true h.2
   simp only[h1,h2,decide_true,Bool.and_self,if_true]
   exact⟨_,rfl,fun o=> ⟨_,rfl,rfl⟩⟩
 | build cells parts=>
   refine Ref.eX fun ps=> ?_
   cases hf:jJ cells ps with
   | none=>trivial
   | some cs=>simp only[oM hf,force_eq];exact rfl
 | buildSlice r sz zero n parts=>
   refine Ref.ee fun ps=>Ref.Gb fun h=> ?_
   simp only[Bool.and_eq_true] at h
   have h1:=jx h.1.1
   have h2:0 <sz:=Nat.le_of_ble_eq_true h.1.2
   have h3:n*sz≤16777216:=Nat.le_of_ble_eq_true h.2
   split
   · rename_i es he
     have hl:eY ps n=true:=by
       cases hb:eY ps n with
       | true=>rfl
       | false=>simp[hb] at he
     simp only[hl,cond_true] at he
     have h4:=pk (pre:=[]) (es:=List.replicate n zero) he rfl (by simp[jF hl])
     simp only[List.nil_append] at h4
     simp only[h4,h1,h2,h3,and_self,decide_true,Bool.and_self,if_true]
     exact⟨_,rfl,fun o=> ⟨_,rfl,rfl⟩⟩
   · cases hf:fS sz (List.replicate n zero) ps with
     | none=>trivial
     | some es=>
       simp only[kG hf,h1,h2,h3,and_self,decide_true,Bool.and_self,if_true]
       exact⟨_,rfl,fun o=> ⟨_,rfl,rfl⟩⟩
 | cr r sz=>
   refine Ref.Gb fun h=> ?_
   have h2:0 <sz:=Nat.le_of_ble_eq_true h
   simp only[av,h2,if_true]
   exact⟨_,rfl,fun o=> ⟨_,rfl,rfl⟩⟩
 | m7 r x=>
   refine Ref.ev fun v=> ?_
   cases v
   case sl r1 g off len=>
     cases hb:Nat.beq r1 r with
     | true=>
       obtain rfl:=Nat.eq_of_beq_eq_true hb
       simp only[if_true,hb,cond_true]
       exact rfl
     | false=>
       have:r1≠r:=Nat.ne_of_beq_eq_false hb
       simp only[hb,cond_false,this,if_false]
       refine⟨_,rfl,fun ⟨gen,sz',arr,fz,es⟩=> ?_⟩
       intro hg
       have hg':gen=g:=hg
       subst hg'
       simp only[if_true]
       exact⟨_,rfl,fun o=> ⟨_,rfl,_,rfl,rfl⟩⟩
   all_goals exact rfl
 | makeSlice r sz bytes zero len cap=>
   refine Ref.ev fun l=>Ref.ev fun c=> ?_
   cases l<;>first| trivial| skip
   cases c<;>first| trivial| skip
   intro h
   simp only[h,and_self,if_true]
   exact⟨_,rfl,fun o=> ⟨_,rfl,rfl⟩⟩
 | load agg sz x=>
   refine Ref.ev fun v=> ?_
   cases v<;>first| trivial| skip
   case ptr r g idx off=>
     refine⟨_,rfl,fun ⟨gen,sz',arr,fz,es⟩=> ?_⟩
     cases es with
     | none=>trivial
     | some es=>
       intro hc
       try simp only at hc
       simp only[hc,if_true]
       have DX:Ref (.ex V (fun e=>es[idx]? =some e) fun e=>oK agg off sz e) (match es[idx]? with
         | some e=>AM.cT (part agg off sz e)
         | none=> .fail):=by
         intro e he
         simp only[he]
         rw[mY];exact Ref.cT fun v hv=>jH hv
       cases arr with
       | true=>exact DX
       | false=>
         simp only
         split
         · rw[mY];exact Ref.cT fun v hv=>jH hv
         · exact DX
   case eptr e off=>simp only[mY];exact Ref.cT fun v hv=>jH hv
   case epk i z e off=>simp only[mY];exact Ref.cT fun v hv=>jH hv
 | store agg sz x v=>
   refine Ref.ev fun v=> ?_
   cases v<;>first| trivial| skip
   refine⟨_,rfl,fun ⟨gen,sz',arr,fz,es⟩=> ?_⟩
   cases arr with
   | true=>exact Ref.ev fun v=>Ref.sA fun v=>Ref.kj
   | false=>exact Ref.ev fun v=>Ref.kj
 | nilCheck x=>exact Ref.ev fun v=>by cases v<;>first| trivial| exact rfl
 | bin op x y=>exact Ref.ev fun a=>Ref.ev fun b=>Ref.bin
 | qp neg x y=>
   refine Ref.ev fun a=>Ref.ev fun b=> ?_
   cases a<;>first| trivial| skip
   cases b<;>first| trivial| exact rfl
 | rP neg ks x y=>
   refine Ref.ev fun a=>Ref.ev fun b=> ?_
   cases a<;>first| trivial| skip
   cases b<;>first| trivial| skip
   rename_i as bs
   simp only
   cases eV ks as bs with
   | none=>trivial
   | some b=>exact rfl
 | un op x=>exact Ref.ev fun a=>Ref.fA
 | ef k x=>exact Ref.ev fun v=>by cases v<;>first| trivial| exact rfl
 | rQ x=>exact Ref.ev fun v=>by cases v<;>first| trivial| exact rfl
 | rR k x=>
   refine Ref.ev fun v=> ?_
   cases v<;>first| trivial| skip
   rintro n ⟨h1,h2,h3⟩
   simp only[h1,h2,h3,and_self,if_true]
   exact rfl
 | qq x=>exact Ref.ev fun v=>by cases v<;>first| trivial| exact rfl
 | jo t x=>exact Ref.ev fun v=>rfl
 | assert t ok zero x=>
   refine Ref.ev fun v=> ?_
   cases v<;>first| trivial| skip
   case nili=>cases ok<;>first| trivial| exact rfl
   case iface t' v=>
     cases hb:Nat.beq t' t with
     | true=>
       have:=Nat.eq_of_beq_eq_true hb
       cases ok<;>simp[hb,this,Ref]
     | false=>
       have:t'≠t:=Nat.ne_of_beq_eq_false hb
       cases ok<;>simp[hb,this,Ref]
 | ie f caps=>exact Ref.wF fun v=>rfl
 | jK x lo hi=>exact Ref.ev fun v=>Ref.vV fun l=>Ref.vV fun h=>Ref.jK
 | slice sz x lo hi mx=>
   rw[nX]
   exact Ref.ev fun v=>Ref.vV fun l=>Ref.vV fun h=>Ref.vV fun m=>Ref.slc
 | fieldAddr off x=>exact Ref.ev fun v=>by cases v<;>first| trivial| exact rfl
 | field agg off sz x=>
   refine Ref.ev fun v=> ?_
   cases v<;>first| trivial| skip
   rename_i cs
   show Ref (oK agg off sz (V.agg cs)) (AM.cT (part agg off sz (V.agg cs)))
   rw[mY]
   exact Ref.cT fun v hv=>jH hv
 | indexAddr sz x i=>
   rw[iF]
   exact Ref.ev fun v=>Ref.ev fun i=>Ref.idx
 | aU n sz x i=>
   refine Ref.ev fun v=>Ref.ev fun i=> ?_
   cases v<;>first| trivial| skip
   all_goals
     cases i<;>first| trivial| skip
     intro h
     simp only[h,and_self,if_true]
     exact rfl
 | jL x i=>
   refine Ref.ev fun v=>Ref.ev fun i=> ?_
   cases v<;>first| trivial| skip
   cases i<;>first| trivial| skip
   intro h b hb
   simp only[h,if_true,hb]
   exact rfl
 | m8 agg n sz x i=>
   refine Ref.ev fun v=>Ref.ev fun i=> ?_
   cases i<;>first| trivial| skip
   intro h e he
   simp only[h,and_self,if_true,he]
   exact rfl
 | len x=>exact Ref.ev fun v=>Ref.fA
 | uz x=>exact Ref.ev fun v=>by cases v<;>first| trivial| exact rfl
 | min xs=>exact Ref.wF fun vs=>Ref.fA
 | max xs=>exact Ref.wF fun vs=>Ref.fA
 | append r sz kb s x=>
   rw[lL]
   exact Ref.ev fun s=>Ref.ev fun x=>Ref.content fun ys=>Ref.gv fun ys=>Ref.append
 | copy sz d s=>
   refine Ref.ev fun d=>Ref.ev fun s=>Ref.content fun ys=> ?_
   cases d<;>first| trivial| exact rfl| skip
   refine⟨_,rfl,fun ⟨gen,sz',arr,fz,es⟩=> ?_⟩
   cases es with
   | none=>trivial
   | some es=>
     intro hc
     try simp only at hc
     simp only[hc,and_self,if_true]
     exact⟨_,by simp[hc],rfl⟩
 | clear sz zero x=>
   refine Ref.ev fun d=> ?_
   cases d<;>first| trivial| exact rfl| skip
   refine⟨_,rfl,fun ⟨gen,sz',arr,fz,es⟩=> ?_⟩
   cases es with
   | none=>trivial
   | some es=>
     intro hc
     try simp only at hc
     simp only[hc,and_self,if_true]
     exact⟨_,by simp[hc],rfl⟩
 | extract x i=>
   refine Ref.ev fun v=> ?_
   cases v<;>first| trivial| skip
   simp only[Bh]
   exact Ref.fA
 | call r bK f args=>
   refine Ref.ev fun v=> ?_
   cases v<;>first| trivial| skip
   rename_i f caps
   exact Ref.wF fun as=>Ref.rL
 | To neg ks x y=>
   refine Ref.ev fun a=>Ref.ev fun b=> ?_
   cases a<;>first| trivial| skip
   case nili=>cases b<;>first| trivial| exact rfl
   case iface t p=>
     cases b<;>first| trivial| exact rfl| skip
     rename_i t' q
     cases hb:Nat.beq t t' with
     | true=>
       have:=Nat.eq_of_beq_eq_true hb
       subst this
       simp only[hb,cond_true,if_true]
       cases pn t ks with
       | none=>trivial
       | some k=>
         simp only
         cases v8 k p q with
         | none=>trivial
         | some b=>exact rfl
     | false=>simp only[hb,cond_false];trivial
 | MZ neg x y=>exact Ref.ev fun a=>Ref.ev fun b=>Ref.MZ
 | mapIter r x=>
   refine Ref.ev fun v=> ?_
   cases v<;>first| trivial| exact⟨_,rfl,fun o=> ⟨_,rfl,rfl⟩⟩
 | bad=>trivial
end Go.AM
namespace Go.AM
def CM (E:Env) (o:bD):bz:=match o.guard with
 | none=>op2 E o.op
 | some (t,want)=> .mL t fun
   | .bool b=> (match want with
     | true=> .ite b (op2 E o.op) (.done dX)
     | false=> .ite b (.done dX) (op2 E o.op))
   | .tuple []=> .done dX
   | _=> .fail
theorem Ref.oper {E:Env} {o:bD}:Ref (CM E o) (dM E o):=by
 unfold CM dM
 cases o.guard with
 | none=>exact Ref.op
 | some p=>
   obtain⟨t,want⟩:=p
   refine⟨_,rfl,fun v=> ?_⟩
   cases v<;>first| trivial| skip
   case bool b=>cases b<;>cases want<;>simp[Ref,Ref.op]
   case tuple vs=>cases vs with
    | nil=>exact rfl
    | cons=>trivial
def DY (E:Env):List bD→SS→(SS→Prop)→Prop
 | [],S,Q=>Q S
 | o::os,S,Q=>ed E (CM E o) S fun v S' _ _=>match S' with
   | ⟨T,O⟩=>match o.dst with
     | some d=>DY E os ⟨(d,v)::T,O⟩ Q
     | none=>DY E os ⟨T,O⟩ Q
def DZ (E:Env):List bD→SS→(List eD→SS→Prop)→Prop
 | [],S,Q=>Q [] S
 | o::os,S,Q=>ed E (CM E o) S fun v S' r w=>match S' with
   | ⟨T,O⟩=>match o.dst with
     | some d=>DZ E os ⟨(d,v)::T,O⟩ fun fs M3=>Q (⟨r,.t d::w⟩::fs) M3
     | none=>DZ E os ⟨T,O⟩ fun fs M3=>Q (⟨r,w⟩::fs) M3
section
variable {E:Env}
theorem Bj {a:Act} {σ:St} {Q:V→St→Prop} (h:pY E a σ fun v σ' _ _=>Q v σ'):rE E a σ Q:=by
 obtain⟨n,v,σ',h1,h2⟩:=h
 exact⟨n,v,σ',h1,h2⟩
theorem po: ∀ {os:List bD} {S:SS} {Q:SS→Prop} {σ:St},DY E os S Q→S.On σ→I5 E os σ fun σ'=> ∃S',S'.On σ'∧Q S'
 | [],S,Q,σ,h,ho=>by rw[tO];exact⟨S,ho,h⟩
 | o::os,S,Q,σ,h,ho=>by
   rw[qa]
   refine Bj (mX (cU Ref.oper h ho) ?_)
   rintro v σ' r w ⟨⟨T,O⟩,xO,h'⟩
   have hp:=xO.put o.dst v
   cases hd:o.dst with
   | none=>simp only[hd] at h' hp ⊢;exact po h' hp
   | some d=>simp only[hd] at h' hp ⊢;exact po h' hp
theorem pq: ∀ {os:List bD} {S:SS} {Q:List eD→SS→Prop} {σ:St},DZ E os S Q→S.On σ→Tl E os σ fun fs σ'=> ∃S',S'.On σ'∧Q fs S'
 | [],S,Q,σ,h,ho=>by rw[tT];exact⟨S,ho,h⟩
 | o::os,S,Q,σ,h,ho=>by
   rw[qi]
   refine mX (cU Ref.oper h ho) ?_
   rintro v σ' r w ⟨⟨T,O⟩,xO,h'⟩
   have hp:=xO.put o.dst v
   cases hd:o.dst with
   | none=>simp only[hd] at h' hp ⊢;exact pq h' hp
   | some d=>simp only[hd] at h' hp ⊢;exact pq h' hp
def thenS (Q:bd→SS→Prop) (k:SS→Prop):bd→SS→Prop
 | .normal,S=>k S
 | .exit id,S=>Q (.exit id) S
 | .ret,S=>Q .ret S
def Gc (id:Nat) (Q:bd→SS→Prop):bd→SS→Prop
 | .exit ka,S=>bif Nat.beq ka id then Q .normal S else Q (.exit ka) S
 | .normal,S=>Q .normal S
 | .ret,S=>Q .ret S
structure aV (E:Env) (b:al) (S:SS) (Q:bd→SS→Prop):Prop where
 h: ∀σ,S.On σ→mM E (.loop b) σ fun e σ'=> ∃S',S'.On σ'∧Q e S'
structure Gd (E:Env) (it nx ne id:Nat) (kT kO:List Nat) (h0 b l:al) (S:SS) (Q:bd→SS→Prop):Prop where
 h: ∀σ,S.On σ→mM E (.keys it nx ne id kT kO h0 b l) σ fun e σ'=> ∃S',S'.On σ'∧Q e S'
structure rT (E:Env) (x:aW) (ps:List Nat) (a b:al) (S:SS) (Q:bd→SS→Prop):Prop where
 h: ∀σ,S.On σ→mM E (.kF x ps a b) σ fun e σ'=> ∃S',S'.On σ'∧Q e S'
def oN (E:Env):al→SS→(bd→SS→Prop)→Prop
 | .skip,S,Q=>Q .normal S
 | .region ops,S,Q=>DY E ops S (Q .normal)
 | .drawn ops,S,Q=>DZ E ops S fun fs S'=>dI (Lp (ops.map (·.pre)) [] [] fs=true) (Q .normal S')
 | .seq a b,S,Q=>oN E a S (thenS Q fun S'=>oN E b S' Q)
 | .cond c a b,S,Q=>match c with
   | .tmp t=> (match lk S.T t with
     | some (.bool c)=>Br c (oN E a S Q) (oN E b S Q)
     | _=>False)
   | .const (.bool c)=>Br c (oN E a S Q) (oN E b S Q)
   | _=>False
 | .block id b,S,Q=>oN E b S (Gc id Q)
 | .loop b,S,Q=>aV E b S Q
 | .exit id,S,Q=>Q (.exit id) S
 | .ret,S,Q=>Q .ret S
 | .scope b,S,Q=>oN E b S Q
 | .bad,_,_=>False
 | .kF x ps a b,S,Q=>rT E x ps a b S Q
 | .keys it nx ne id kT kO h0 b l,S,Q=>Gd E it nx ne id kT kO h0 b l S Q
theorem cX: ∀ {c:al} {S:SS} {Q:bd→SS→Prop} {σ:St},oN E c S Q→S.On σ→mM E c σ fun e σ'=> ∃S',S'.On σ'∧Q e S'
 | .skip,S,Q,σ,h,ho=>by rw[qe];exact⟨S,ho,h⟩
 | .region ops,S,Q,σ,h,ho=>by rw[lJ];exact po h ho
 | .drawn ops,S,Q,σ,h,ho=>by
   refine xI ?_
   have h1:=pq h ho
   refine qj h1 ?_
   rintro fs σ' ⟨S',h2,h3,h4⟩
   exact⟨h3,S',h2,h4⟩
 | .seq a b,S,Q,σ,h,ho=>by
   rw[tQ]
   refine iO (cX (c:=a) h ho) ?_
   rintro e σ' ⟨S',h1,h2⟩
   cases e with
   | normal=>exact cX (c:=b) h2 h1
   | exit id=>exact⟨S',h1,h2⟩
   | ret=>exact⟨S',h1,h2⟩
 | .cond c a b,S,Q,σ,h,ho=>by
   rw[qg]
   simp only[oN] at h
   cases c with
   | tmp t=>
     simp only at h
     split at h
     · rename_i c hc
       rw[ki,ho.1 t _ hc]
       cases c with
       | true=>exact cX (c:=a) (h.1 rfl) ho
       | false=>exact cX (c:=b) (h.2 rfl) ho
     · exact h.elim
   | const v=>
     cases v
     case bool c=>
       rw[iD]
       cases c with
       | true=>exact cX (c:=a) (h.1 rfl) ho
       | false=>exact cX (c:=b) (h.2 rfl) ho
     all_goals exact h.elim
 | .block id b,S,Q,σ,h,ho=>by
   rw[nW]
   refine iO (cX (c:=b) h ho) ?_
   rintro e σ' ⟨S',h1,h2⟩
   cases e with
   | normal=>exact⟨S',h1,h2⟩
   | ret=>exact⟨S',h1,h2⟩
   | exit ka=>
     simp only[Gc] at h2
     simp only[uk]
     cases hb:Nat.beq ka id with
     | true=>
       have:=Nat.eq_of_beq_eq_true hb
       simp only[hb,cond_true] at h2
       rw[if_pos this];exact⟨S',h1,h2⟩
     | false=>
       have:ka≠id:=Nat.ne_of_beq_eq_false hb
       simp only[hb,cond_false] at h2
       rw[if_neg this];exact⟨S',h1,h2⟩
 | .loop b,S,Q,σ,h,ho=>h.h σ ho
 | .exit id,S,Q,σ,h,ho=>by rw[qf];exact⟨S,ho,h⟩
 | .ret,S,Q,σ,h,ho=>by rw[tP];exact⟨S,ho,h⟩
 | .scope b,S,Q,σ,h,ho=>by rw[nV];exact cX (c:=b) h ho
 | .kF ..,S,Q,σ,h,ho=>h.h σ ho
 | .keys ..,S,Q,σ,h,ho=>h.h σ ho
 | .bad,_,_,_,h,_=>h.elim
theorem aaM {x:V}:aN [x] 0 1=[x]:=rfl
def tF {α:Type}:List (Nat×α)→List (Nat×α)→Prop
 | [],_=>True
 | p::l,m=> (match lk m p.1 with
   | some x=>x=p.2
   | none=>False)∧tF l m
def SS.Sub (S S':SS):Prop:=tF S.T S'.T∧tF S.O S'.O
theorem tF.lk {α:Type}: ∀ {l m:List (Nat×α)},tF l m→ ∀ {n x},lk l n=some x→lk m n=some x
 | [],_,_,n,x,h=>by simp[AM.lk] at h
 | p::l,m,h,n,x,hx=>by
   rw[eF] at hx
   by_cases e:p.1=n
   · rw[if_pos e] at hx
     injection hx with hx
     have:=h.1
     subst e
     split at this
     · rename_i y hy;rw[hy,this,hx]
     · exact this.elim
   · rw[if_neg e] at hx
     exact tF.lk h.2 hx
theorem SS.Sub.on {S S':SS} (h:S.Sub S') {σ:St} (ho:S'.On σ):S.On σ:=
 ⟨fun t v hv=>ho.1 t v (h.1.lk hv),fun r o hr=>ho.2 r o (h.2.lk hr)⟩
def Tp (Q:bd→SS→Prop) (I:Nat→SS→Prop) (k:Nat):bd→SS→Prop
 | .normal,S=> ∃j,j<k∧ ∃S',S'.Sub S∧I j S'
 | .exit id,S=>Q (.exit id) S
 | .ret,S=>Q .ret S
theorem aV.of {b:al} {Q:bd→SS→Prop} (I:Nat→SS→Prop) (hI: ∀k S,I k S→oN E b S (Tp Q I k)) {k:Nat} {S0 S:SS} (hs:S0.Sub S) (h0:I k S0):aV E b S Q:=by
 refine⟨fun σ ho=> ?_⟩
 refine y0 (fun k σ=> ∃S,S.On σ∧I k S) ?_ k σ ⟨S0,hs.on ho,h0⟩
 rintro k σ ⟨S,hS,hi⟩
 refine iO (cX (hI k S hi) hS) ?_
 rintro e σ' ⟨S',h1,h2⟩
 cases e with
 | normal=>
   obtain⟨j,hj,M3,h3,h4⟩:=h2
   exact⟨j,hj,M3,h3.on h1,h4⟩
 | exit id=>exact⟨S',h1,h2⟩
 | ret=>exact⟨S',h1,h2⟩
theorem dg: ∀ {a:bz} {S:SS} {Q Q':KK},ed E a S Q→(∀v S' r w,Q v S' r w→Q' v S' r w)→ed E a S Q'
 | .done v,_,_,_,h,k=>k _ _ _ _ h
 | .fail,_,_,_,h,_=>h
 | .mL t f,S,Q,Q',h,k=>by
   simp only[ed] at h ⊢
   split
   · rename_i v hv
     rw[hv] at h
     exact dg h fun _ _ _ _ h=>k _ _ _ _ h
   · rename_i hv;rw[hv] at h;exact h
 | .bV t f,S,Q,Q',h,k=>by
   simp only[ed] at h ⊢
   split
   · rename_i v hv
     rw[hv] at h
     exact dg h fun _ _ _ _ h=>k _ _ _ _ h
   · rename_i hv;rw[hv] at h;exact h
 | .bI t o f,⟨T,O⟩,Q,Q',h,k=>by
   simp only[ed] at h ⊢
   exact dg h fun _ _ _ _ h=>k _ _ _ _ h
 | .lN t f,S,Q,Q',h,k=>by
   simp only[ed] at h ⊢
   exact fun g=>dg (h g) fun _ _ _ _ h=>k _ _ _ _ h
 | .call f as c,S,Q,Q',h,k=>by
   simp only[ed] at h ⊢
   obtain⟨res,h1,h2⟩:=h
   exact⟨res,h1,dg h2 k⟩
 | .bS p c,S,Q,Q',h,k=> ⟨h.1,dg h.2 k⟩
 | .ex α p c,S,Q,Q',h,k=>by
   obtain⟨x,h1,h2⟩:=h
   exact⟨x,h1,dg h2 k⟩
 | .ite b x y,S,Q,Q',h,k=> ⟨fun hb=>dg (h.1 hb) k,fun hb=>dg (h.2 hb) k⟩
 | .Tn a,S,Q,Q',h,k=> ⟨fun σ ho=>mX (h.h σ ho) fun v σ' r w ⟨S',h1,h2⟩=> ⟨S',h1,k _ _ _ _ h2⟩⟩
 | .alt x y,S,Q,Q',h,k=>by
   rcases h with h| h
   · exact .inl (dg h k)
   · exact .inr (dg h k)
 | .all f,S,Q,Q',h,k=>fun n=>dg (h n) k
theorem rU: ∀ {os:List bD} {S:SS} {Q Q':SS→Prop},DY E os S Q→(∀S',Q S'→Q' S')→DY E os S Q'
 | [],_,_,_,h,k=>k _ h
 | o::os,_,_,_,h,k=>dg h fun _ ⟨T,O⟩ _ _ h=>by
   cases hd:o.dst with
   | none=>simp only[hd] at h ⊢;exact rU h k
   | some d=>simp only[hd] at h ⊢;exact rU h k
theorem rV: ∀ {os:List bD} {S:SS} {Q Q':List eD→SS→Prop},DZ E os S Q→(∀fs S',Q fs S'→Q' fs S')→DZ E os S Q'
 | [],_,_,_,h,k=>k _ _ h
 | o::os,_,_,_,h,k=>dg h fun _ ⟨T,O⟩ _ _ h=>by
   cases hd:o.dst with
   | none=>simp only[hd] at h ⊢;exact rV h fun _ _ h=>k _ _ h
   | some d=>simp only[hd] at h ⊢;exact rV h fun _ _ h=>k _ _ h
theorem gC: ∀ {c:al} {S:SS} {Q Q':bd→SS→Prop},oN E c S Q→(∀e S',Q e S'→Q' e S')→oN E c S Q'
 | .skip,_,_,_,h,k=>k _ _ h
 | .region _,_,_,_,h,k=>rU h fun _ h=>k _ _ h
 | .drawn _,_,_,_,h,k=>rV h fun _ _ h=> ⟨h.1,k _ _ h.2⟩
 | .seq a b,_,Q,Q',h,k=>gC (c:=a) h fun e S' h'=>by
   cases e with
   | normal=>exact gC (c:=b) h' k
   | exit id=>exact k _ _ h'
   | ret=>exact k _ _ h'
 | .cond c a b,S,Q,Q',h,k=>by
   simp only[oN] at h ⊢
   cases c with
   | tmp t=>
     simp only at h ⊢
     split at h
     · exact⟨fun hb=>gC (c:=a) (h.1 hb) k,fun hb=>gC (c:=b) (h.2 hb) k⟩
     · exact h.elim
   | const v=>
     cases v
     case bool c=>exact⟨fun hb=>gC (c:=a) (h.1 hb) k,fun hb=>gC (c:=b) (h.2 hb) k⟩
     all_goals exact h.elim
 | .block id b,_,Q,Q',h,k=>gC (c:=b) h fun e S' h'=>by
   cases e with
   | normal=>exact k _ _ h'
   | ret=>exact k _ _ h'
   | exit ka=>
     simp only[Gc] at h' ⊢
     cases hb:Nat.beq ka id with
     | true=>simp only[hb,cond_true] at h' ⊢;exact k _ _ h'
     | false=>simp only[hb,cond_false] at h' ⊢;exact k _ _ h'
 | .loop b,_,_,_,h,k=> ⟨fun σ ho=>iO (h.h σ ho) fun e σ' ⟨S',h1,h2⟩=> ⟨S',h1,k _ _ h2⟩⟩
 | .exit _,_,_,_,h,k=>k _ _ h
 | .ret,_,_,_,h,k=>k _ _ h
 | .scope b,_,_,_,h,k=>gC (c:=b) h k
 | .kF ..,_,_,_,h,k=> ⟨fun σ ho=>iO (h.h σ ho) fun e σ' ⟨S',h1,h2⟩=> ⟨S',h1,k _ _ h2⟩⟩
 | .keys ..,_,_,_,h,k=> ⟨fun σ ho=>iO (h.h σ ho) fun e σ' ⟨S',h1,h2⟩=> ⟨S',h1,k _ _ h2⟩⟩
 | .bad,_,_,_,h,_=>h
inductive a9 {α:Type} (Sh:α→SS) (P:α→Prop) (μ:α→Nat) (a:α) (S:SS):Prop
 | mk (a':α) (h1:μ a'<μ a) (h2:P a') (h3: (Sh a').Sub S)
def M4 {α:Type} (Q:bd→SS→Prop) (Sh:α→SS) (P:α→Prop) (μ:α→Nat) (a:α):bd→SS→Prop
 | .normal,S=>a9 Sh P μ a S
 | .exit id,S=>Q (.exit id) S
 | .ret,S=>Q .ret S
theorem aV.by {α:Type} {b:al} {Q:bd→SS→Prop} {S:SS} (Sh:α→SS) (P:α→Prop) (μ:α→Nat) (a0:α) (hs: (Sh a0).Sub S) (h0:P a0)
   (step: ∀a,P a→oN E b (Sh a) (M4 Q Sh P μ a)):aV E b S Q:=by
 refine aV.of (fun k S=> ∃a,k=μ a∧P a∧S=Sh a) ?_ hs ⟨a0,rfl,h0,rfl⟩
 rintro k S ⟨a,rfl,hp,rfl⟩
 refine gC (step a hp) fun e S' h=> ?_
 cases e with
 | normal=>
   obtain⟨a',h1,h2,h3⟩:=h
   exact⟨_,h1,_,h3,a',rfl,h2,rfl⟩
 | exit id=>exact h
 | ret=>exact h
theorem aV.M5 {b:al} {Q:bd→SS→Prop} {S:SS} (h:aV E b S fun e S'=> ∃S0,S0.Sub S'∧Q e S0):aV E b S Q:=by
 refine⟨fun σ ho=>iO (h.h σ ho) ?_⟩
 rintro e σ' ⟨S',h1,S0,h2,h3⟩
 exact⟨S0,h2.on h1,h3⟩
def Tq (K:SS→Prop):bd→SS→Prop
 | .normal,S=>K S
 | _,_=>False
def wH (S:SS):List Nat→List V→SS
 | p::ps,x::xs=>wH (S.put (some p) x) ps xs
 | _,_=>S
theorem za: ∀ {ps:List Nat} {x:List V} {S:SS} {T:Nat→V} {O:Nat→Obj},S.On ⟨T,O⟩→(wH S ps x).On ⟨na T ps x,O⟩
 | [],x,S,T,O,h=>by simpa [wH,na] using h
 | p::ps,[],S,T,O,h=>by simpa [wH,na] using h
 | p::ps,x::xs,S,T,O,h=>za (ps:=ps) (x:=xs) (h.put (some p) x)
inductive zc {α:Type} (Oh:α→List (Nat×Obj)) (P:α→Prop) (O:List (Nat×Obj)):Prop
 | mk (a:α) (h1:P a) (h2:tF (Oh a) O)
def aaN {α:Type} (Q:bd→SS→Prop) (T:List (Nat×V)) (Oh:α→List (Nat×Obj)) (P:α→Prop):bd→SS→Prop
 | .normal,S=>zc Oh P S.O
 | .exit id,S=>Q (.exit id) ⟨T,S.O⟩
 | .ret,S=>Q .ret ⟨T,S.O⟩
theorem rT.by {α:Type} {fx:aW} {ps:List Nat} {ac b:al} {S:SS} {Q:bd→SS→Prop} {g:Nat} {caps:List V} (xs:List (List V)) (hf:match fx with| .tmp t=>lk S.T t=some (.fn g caps) | .const v=>v= .fn g caps) (hi:E.iter g caps=some xs) (hl: ∀x ∈ xs,x.length=ps.length)
  (Oh:α→List (Nat×Obj)) (P:Nat→α→Prop) (a0:α) (h0:tF (Oh a0) S.O) (hp:P 0 a0)
  (step: ∀ (k:Nat) x a,xs[k]? =some x→P k a→oN E ac (wH ⟨S.T,Oh a⟩ ps x) (Tq fun S1=>oN E b S1 (aaN Q S.T Oh (P (k+1)))))
  (fin: ∀a,P xs.length a→Q .normal ⟨S.T,Oh a⟩):rT E fx ps ac b S Q:=by
 refine⟨fun σ ho=> ?_⟩
 have Tr: ∀ {l:List (Nat×Obj)} {σ:St} {m:List (Nat×Obj)},tF l m→(∀r o,lk m r=some o→σ.O r=o)→ ∀r o,lk l r=some o→σ.O r=o:=fun {l σ m} hs hm=>by
  have h2: (⟨[],m⟩:SS).On σ:=⟨fun t v h=>by simp[lk] at h,hm⟩
  exact(SS.Sub.on (S:=⟨[],l⟩) (S':=⟨[],m⟩) ⟨trivial,hs⟩ h2).2
 have run: ∀ (rest:List (List V)) (k:Nat) (a:α) (O:Nat→Obj),xs.drop k=rest→P k a→(∀r o,lk (Oh a) r=some o→O r=o)→k≤xs.length→ ∃n e σ',qv (exec E n) ps ac b σ.T rest O=some (e,σ')∧ ∃S',S'.On σ'∧Q e S':=by
  intro rest
  induction rest with
  | nil=>
    intro k a O hd SI hO Ls
    have hk:xs.length≤k:=by
      have:=congrArg List.length hd
      simp at this;omega
    have:k=xs.length:=by omega
    subst this
    exact⟨0,.normal,⟨σ.T,O⟩,rfl,⟨S.T,Oh a⟩,⟨ho.1,hO⟩,fin a SI⟩
  | cons x rest ih=>
    intro k a O hd SI hO Ls
    have hk:k<xs.length:=by
      rcases Nat.lt_or_ge k xs.length with h| h
      · exact h
      · rw[List.drop_of_length_le h] at hd;simp at hd
    rw[List.drop_eq_getElem_cons hk] at hd
    injection hd with hx hd
    have eR:xs[k]? =some x:=by rw[List.getElem?_eq_getElem hk,hx]
    obtain⟨n1,e1,σ1,h1,S1,h2,h3⟩:=cX (step k x a eR SI) (za (x:=x) (ps:=ps) (S:=⟨S.T,Oh a⟩) (T:=σ.T) (O:=O) ⟨ho.1,hO⟩)
    cases e1 with
    | exit id=>exact h3.elim
    | ret=>exact h3.elim
    | normal=>
      obtain⟨n2,e2,σ2,k1,S2,k2,k3⟩:=cX h3 h2
      cases e2 with
      | normal=>
        obtain⟨a',q1,q2⟩:=k3
        obtain⟨n3,e,σ',l1,l2⟩:=ih (k+1) a' σ2.O hd q1 (Tr (σ:=σ2) q2 k2.2) (by omega)
        refine⟨max n1 (max n2 n3),e,σ',?_,l2⟩
        have m1:=cB (E:=E) (Nat.le_max_left n1 (max n2 n3)) _ _ _ h1
        have m2:=cB (E:=E) (Nat.le_trans (Nat.le_max_left n2 n3) (Nat.le_max_right n1 _)) _ _ _ k1
        have m3:=rD (fun c σ x h=>cB (E:=E) (Nat.le_trans (Nat.le_max_right n2 n3) (Nat.le_max_right n1 _)) c σ x h) l1
        simp only[qv,m1,m2,m3]
      | exit id=>
        refine⟨max n1 n2,.exit id,⟨σ.T,σ2.O⟩,?_,⟨S.T,S2.O⟩,⟨ho.1,k2.2⟩,k3⟩
        have m1:=cB (E:=E) (Nat.le_max_left n1 n2) _ _ _ h1
        have m2:=cB (E:=E) (Nat.le_max_right n1 n2) _ _ _ k1
        simp only[qv,m1,m2]
      | ret=>
        refine⟨max n1 n2,.ret,⟨σ.T,σ2.O⟩,?_,⟨S.T,S2.O⟩,⟨ho.1,k2.2⟩,k3⟩
        have m1:=cB (E:=E) (Nat.le_max_left n1 n2) _ _ _ h1
        have m2:=cB (E:=E) (Nat.le_max_right n1 n2) _ _ _ k1
        simp only[qv,m1,m2]
 obtain⟨n,e,σ',h1,h2⟩:=run xs 0 a0 σ.O (by simp) hp (Tr (σ:=σ) h0 ho.2) (Nat.zero_le _)
 refine⟨n+1,e,σ',?_,h2⟩
 have IQ:bo σ fx= .fn g caps:=by
  cases fx with
  | tmp t=>exact ho.1 t _ hf
  | const v=>exact hf
 have qw:xs.all (fun x=>Nat.beq x.length ps.length)=true:=by
  rw[List.all_eq_true];intro x hx;rw[Nat.beq_eq];exact hl x hx
 simp only[exec,aJ,IQ,hi,qw,if_true,h1]
theorem Lw (i:Nat) (h:i< 4611686018427387904):V.int .i64 (IntKind.i64.wrap ((i:Int)+1))=V.int .i64 ((i+1:Nat):Int):=by
 rw[wrap64 (by omega) (by omega)];rfl
def xP ( S:SS):List qh→(List V→Prop)→Prop
 | [],k=>k []
 | .tmp t::rs,k=> (match lk S.T t with
   | some v=>xP S rs fun vs=>k (v::vs)
   | none=>False)
 | .cell t agg sz::rs,k=> (match lk S.T t with
   | some (.ptr r g idx off)=> (match lk S.O r with
     | some ⟨cq,_,_,_,iG⟩=> (match iG with
       | some [e]=> (match idx with
         | 0=>dI (cq=g) (match uv agg off sz e with
           | some v=>xP S rs fun vs=>k (v::vs)
           | none=>False)
         | _+1=>False)
       | _=>False)
     | none=>False)
   | _=>False)
theorem pt {  S:SS} {σ:St} (ho:S.On σ): ∀ {rs:List qh} {k:List V→Prop},xP S rs k→ ∃vs,cW σ rs=some vs∧k vs
 | [],k,h=> ⟨[],rfl,h⟩
 | .tmp t::rs,k,h=>by
   simp only[xP] at h
   split at h
   · rename_i v hv
     obtain⟨vs,h1,h2⟩:=pt ho h
     exact⟨v::vs,by simp[cW,eP,h1,ho.1 t v hv],h2⟩
   · exact h.elim
 | .cell t agg sz::rs,k,h=>by
   simp only[xP] at h
   split at h
   · rename_i r g idx off hv
     split at h
     · rename_i cq gm dj iY iG hr
       split at h
       · rename_i e
         split at h
         · obtain⟨hg,h⟩:=h
           split at h
           · rename_i v hp
             obtain⟨vs,h1,h2⟩:=pt ho h
             refine⟨v::vs,?_,h2⟩
             simp[cW,eP,h1,ho.1 t _ hv,ho.2 r _ hr,hg,jH hp]
           · exact h.elim
         · exact h.elim
       · exact h.elim
     · exact h.elim
   · exact h.elim
def sG (S:SS):Nat→List V→(List (Nat×List V)→Prop)→Prop
 | _,[],k=>k []
 | i,.msl sz _ _ _::as,k| i,.mptr sz _ _ _::as,k=> (match lk S.O i with
   | some ⟨cq,gm,_,iY,iG⟩=> (match iG with
     | some es=>dI (iY=false∧gm=sz∧V.an es=true) (sG S (i+1) as fun outs=>k ((cq,es)::outs))
     | none=>False)
   | none=>False)
 | i,_::as,k=>sG S (i+1) as k
theorem kn {S:SS} {σ:St} (ho:S.On σ): ∀ {as:List V} {i:Nat} {k:List (Nat×List V)→Prop},sG S i as k→ ∃outs,bW σ.O i as=some outs∧k outs
 | [],i,k,h=> ⟨[],by simp[bW],by simpa [sG] using h⟩
 | a::as,i,k,h=>by
   cases a
   case msl sz es' off len=>
    simp only[sG] at h
    split at h
    · rename_i cq gm dj iY iG hr
      split at h
      ·  rename_i es
         obtain⟨hc,h⟩:=h
         obtain⟨outs,h1,h2⟩:=kn ho h
         refine⟨_,?_,h2⟩
         simp[bW,ho.2 i _ hr,h1,hc]
      · exact h.elim
    · exact h.elim
   case mptr sz es' off len=>
    simp only[sG] at h
    split at h
    · rename_i cq gm dj iY iG hr
      split at h
      ·  rename_i es
         obtain⟨hc,h⟩:=h
         obtain⟨outs,h1,h2⟩:=kn ho h
         refine⟨_,?_,h2⟩
         simp[bW,ho.2 i _ hr,h1,hc]
      · exact h.elim
    · exact h.elim
   all_goals
    simp only[sG] at h
    obtain⟨outs,h1,h2⟩:=kn ho h
    exact⟨outs,by simp[bW,h1],h2⟩
def qy ( n:Nat) (S:SS) (c:V) (k:V→List Nat→Prop):Prop:=
 match c with
 | .sl r g off len=> (match lk S.O r with
   | some ⟨cq,gm,dj,iY,iG⟩=> (match iG with
     | some es=>dI (cq=g∧dj=true) (aL (fun ys=>aN es off len=ys) fun ys=>dI (off+len≤es.length∧V.an ys=true)
        (bif Nat.blt r n then k (.sl r g off len) [r] else bif iY then k (.lit gm ys) [] else k (.own gm ys) [r]))
     | none=>False)
   | none=>False)
 | c=>dI (V.aC c=true) (k c [])
theorem nc {n:Nat} {S:SS} {σ:St} (ho:S.On σ) {c:V} {k:V→List Nat→Prop} (h:qy n S c k): ∃v rs,bO n σ c=some (v,rs)∧k v rs:=by
 unfold qy at h
 split at h
 · rename_i r g off len
   split at h
   · rename_i cq gm dj iY iG hr
     split at h
     · rename_i es
       obtain⟨⟨h1,h2⟩,ys,rfl,⟨h3,h4⟩,h⟩:=h
       have e1:=ho.2 r _ hr
       simp only[bO,e1,h1,h2,h3,h4,and_self,if_true]
       cases hb:Nat.blt r n with
       | true=>
         have:r<n:=by simpa [Nat.blt_eq] using hb
         simp only[hb,cond_true] at h
         rw[if_pos this];exact⟨_,_,rfl,h⟩
       | false=>
         have: ¬r<n:=by intro hc;rw[←Nat.blt_eq,hb] at hc;simp at hc
         simp only[hb,cond_false] at h
         rw[if_neg this]
         cases hz:iY with
         | true=>simp only[hz,cond_true] at h;exact⟨_,_,by simp[e1,hz],h⟩
         | false=>simp only[hz,cond_false] at h;exact⟨_,_,by simp[e1,hz],h⟩
     · exact h.elim
   · exact h.elim
 · rename_i hn
   refine⟨c,[],?_,h.rest⟩
   have h:=h.side
   unfold bO
   cases c
   case sl=>exact absurd rfl (hn _ _ _ _)
   all_goals simp_all
def nZ (n:Nat) (S:SS):List V→(List V→List Nat→Prop)→Prop
 | [],k=>k [] []
 | c::cs,k=>qy n S c fun c' r=>nZ n S cs fun cN rs=>k (c'::cN) (r++rs)
theorem iZ {n:Nat} {S:SS} {σ:St} (ho:S.On σ): ∀ {cs:List V} {k:List V→List Nat→Prop},nZ n S cs k→ ∃v rs,bE n σ cs=some (v,rs)∧k v rs
 | [],_,h=> ⟨[],[],rfl,h⟩
 | c::cs,k,h=>by
   obtain⟨v,r,h1,h2⟩:=nc ho h
   obtain⟨vs,rs,h3,h4⟩:=iZ ho h2
   exact⟨_,_,by simp[bE,h1,h3],h4⟩
def Gf (n:Nat) (S:SS) (v:V) (k:V→List Nat→Prop):Prop:=
 bif V.aC v then k v [] else
 match v with
 | .agg cs=>nZ n S cs fun cN rs=>k (.agg cN) rs
 | .fn f cs=>nZ n S cs fun cN rs=>dI (V.an cN=true) (k (.fn f cN) rs)
 | v=>qy n S v k
theorem zd {n:Nat} {S:SS} {σ:St} (ho:S.On σ) {v:V} {k:V→List Nat→Prop} (h:Gf n S v k): ∃v' rs,cL n σ v=some (v',rs)∧k v' rs:=by
 unfold Gf at h
 unfold cL
 cases hp:V.aC v with
 | true=>simp only[hp,cond_true] at h;exact⟨v,[],by simp,h⟩
 | false=>
   simp only[hp,cond_false] at h
   simp only[Bool.false_eq_true,if_false]
   split at h
   · obtain⟨cN,rs,h1,h2⟩:=iZ ho h
     exact⟨_,_,by simp[h1],h2⟩
   · obtain⟨cN,rs,h1,h2,h3⟩:=iZ ho h
     exact⟨_,_,by simp[h1,h2],h3⟩
   · obtain⟨v',rs,h1,h2⟩:=nc ho h
     exact⟨v',rs,by cases v<;>simp_all,h2⟩
def Bl (n:Nat) (S:SS):List V→(List V→List Nat→Prop)→Prop
 | [],k=>k [] []
 | c::cs,k=>Gf n S c fun c' r=>Bl n S cs fun cN rs=>k (c'::cN) (r++rs)
theorem qz {n:Nat} {S:SS} {σ:St} (ho:S.On σ): ∀ {cs:List V} {k:List V→List Nat→Prop},Bl n S cs k→ ∃v rs,cm n σ cs=some (v,rs)∧k v rs
 | [],_,h=> ⟨[],[],rfl,h⟩
 | c::cs,k,h=>by
   obtain⟨v,r,h1,h2⟩:=zd ho h
   obtain⟨vs,rs,h3,h4⟩:=qz ho h2
   exact⟨_,_,by simp[cm,h1,h3],h4⟩
def kH (rs:List qh) (args:List V) (S:SS) (R:fL→Prop):Prop:=
 xP S rs fun vs=>sG S 0 args fun outs=>Bl args.length S vs fun vs' refs=>dI (distinct refs=true) (match vs' with
  | [v]=>R ⟨v,outs⟩
  | vs'=>R ⟨.tuple vs',outs⟩)
def v9 (rs:List qh) (args:List V) (R:fL→Prop):bd→SS→Prop
 | .exit _,_=>False
 | .normal,S=>kH rs args S R
 | .ret,S=>kH rs args S R
theorem xQ {rs:List qh} {args:List V} {S:SS} {R:fL→Prop} {σ:St} (ho:S.On σ) (h:kH rs args S R): ∃res,leave ⟨0,0,[],rs,.skip,none⟩ args σ=some res∧R res:=by
 obtain⟨vs,h1,h⟩:=pt ho h
 obtain⟨outs,h2,h⟩:=kn ho h
 obtain⟨vs',refs,h3,h4,h⟩:=qz ho h
 simp only[leave,h1,h2,h3]
 split at h
 · rename_i v
   exact⟨_,by simp[h4],h⟩
 · rename_i hn
   refine⟨⟨.tuple vs',outs⟩,?_,h⟩
   split
   · rename_i v rs' heq
     injection heq with e1;injection e1 with e1 e2
     exact absurd e1 (by intro hh;exact hn v hh)
   · rename_i vs2 rs2 heq
     injection heq with e1;injection e1 with e1 e2
     subst e1 e2
     simp[h4]
   · rename_i heq;simp at heq
def kI:Nat→List V→List (Nat×V)
 | _,[]=> []
 | i,.msl _ _ off len::as=> (i,.sl i 0 off len)::kI (i+1) as
 | i,.mptr _ _ idx off::as=> (i,.ptr i 0 idx off)::kI (i+1) as
 | i,v::as=> (i,v)::kI (i+1) as
def kJ:Nat→List V→List (Nat×Obj)
 | _,[]=> []
 | i,.msl sz es _ _::as=> (i,{gen:=0,sz,arr:=true,fz:=false,es:=some es})::kJ (i+1) as
 | i,.mptr sz es _ _::as=> (i,{gen:=0,sz,arr:=false,fz:=false,es:=some es})::kJ (i+1) as
 | i,_::as=>kJ (i+1) as
def xR (args:List V):SS:=⟨kI 0 args,kJ 0 args⟩
theorem wI: ∀ (as pre:List V) (t:Nat) (v:V),lk (kI pre.length as) t=some v→(enter (pre++as)).T t=v
 | [],_,_,_,h=>by simp[kI,lk] at h
 | a::as,pre,t,v,h=>by
   have ih:=wI as (pre++[a]) t v
   simp only[List.length_append,List.length_cons,List.length_nil,Nat.zero_add,List.append_assoc,List.singleton_append] at ih
   have key: ∀x,lk ((pre.length,x)::kI (pre.length+1) as) t=some v→(enter (pre++a::as)).T pre.length=x→(enter (pre++a::as)).T t=v:=by
    intro x hx hv
    rw[eF] at hx
    by_cases e:pre.length=t
    · simp only[e,if_true,Option.some.injEq] at hx;rw[←hx,←hv,e]
    · simp only[e,if_false] at hx;exact ih hx
   have hg: (pre++a::as)[pre.length]? =some a:=by simp
   cases a
   case msl=>exact key _ (by simpa [kI] using h) (by simp[enter,hg])
   case mptr=>exact key _ (by simpa [kI] using h) (by simp[enter,hg])
   all_goals exact key _ (by simpa [kI] using h) (by simp[enter,hg])
theorem wJ: ∀ (as pre:List V) (t:Nat) (v:Obj),lk (kJ pre.length as) t=some v→(enter (pre++as)).O t=v
 | [],_,_,_,h=>by simp[kJ,lk] at h
 | a::as,pre,t,v,h=>by
   have ih:=wJ as (pre++[a]) t v
   simp only[List.length_append,List.length_cons,List.length_nil,Nat.zero_add,List.append_assoc,List.singleton_append] at ih
   have key: ∀x,lk ((pre.length,x)::kJ (pre.length+1) as) t=some v→(enter (pre++a::as)).O pre.length=x→(enter (pre++a::as)).O t=v:=by
    intro x hx hv
    rw[eF] at hx
    by_cases e:pre.length=t
    · simp only[e,if_true,Option.some.injEq] at hx;rw[←hx,←hv,e]
    · simp only[e,if_false] at hx;exact ih hx
   have hg: (pre++a::as)[pre.length]? =some a:=by simp
   cases a
   case msl=>exact key _ (by simpa [kJ] using h) (by simp[enter,hg])
   case mptr=>exact key _ (by simpa [kJ] using h) (by simp[enter,hg])
   all_goals exact ih (by simpa [kJ] using h)
theorem D0 (args:List V): (xR args).On (enter args):=
 ⟨fun t v h=>wI args [] t v h,fun r o h=>wJ args [] r o h⟩
theorem Ev.cO {f:Nat} {af:aF} {args:List V} {R:fL→Prop} (hf:E.fn f=some af) (hx:E.ext f args=none) (hl:args.length=af.nparams)
  (h:oN E af.body (xR args) (v9 af.results args R)) (ht:af.tag=none:=by rfl) (hh:E.hyb f=none:=by rfl): ∃res,Ev E f args res∧R res:=by
 obtain⟨n,e,σ',h1,S',h2,h3⟩:=cX h (D0 args)
 have key: ∀ {e},exec E n af.body (enter args)=some (e,σ')→(e= .normal∨e= .ret)→kH af.results args S' R→ ∃res,Ev E f args res∧R res:=by
  intro e h1 he hl3
  obtain⟨res,h4,h5⟩:=xQ h2 hl3
  refine⟨res,⟨n,?_⟩,h5⟩
  unfold call dm
  rw[hh];simp only[kE]
  rw[hx];simp only[hf,hl,if_true,ht,h1]
  rcases he with rfl| rfl<;>exact h4
 cases e with
 | normal=>exact key h1 (.inl rfl) h3
 | ret=>exact key h1 (.inr rfl) h3
 | exit id=>exact h3.elim
theorem Ev.aG {f:Nat} {af:aF} {args:List V} {res:fL} (hf:E.fn f=some af) (hx:E.ext f args=none) (hl:args.length=af.nparams)
  (h:oN E af.body (xR args) (v9 af.results args (· =res))) (ht:af.tag=none:=by rfl) (hh:E.hyb f=none:=by rfl):Ev E f args res:=by
 obtain⟨r,h1,rfl⟩:=Ev.cO hf hx hl h ht hh
 exact h1
end
end Go.AM
namespace Go.AM
abbrev ze:=List (Nat×List V×fL)
def Gg (tab:ze) (C:bj):bj:=fun f as=>match tab.find? (fun p=>Nat.beq p.1 f &&V.mN p.2.1 as) with
 | some p=>some p.2.2
 | none=>C f as
def wK (E:Env) (tab:ze):Nat→al→St→Option (bd×St)
 | 0=>fun _ _=>none
 | n+1=>aJ E (Gg tab (dm E (wK E tab n))) (wK E tab n)
def zf (E:Env) (tab:ze) (n:Nat):bj:=dm E (wK E tab n)
theorem zh {E:Env}: ∀tab:ze,(∀p ∈ tab,Ev E p.1 p.2.1 p.2.2)→ ∃M,∀p ∈ tab,call E M p.1 p.2.1=some p.2.2
 | [],_=> ⟨0,by simp⟩
 | p::tab,h=>by
   obtain⟨M,hM⟩:=zh tab fun q hq=>h q (by simp[hq])
   obtain⟨m,hm⟩:=h p (by simp)
   refine⟨max M m,fun q hq=> ?_⟩
   rcases List.mem_cons.1 hq with rfl| hq
   · exact eh (Nat.le_max_right ..) _ _ _ hm
   · exact eh (Nat.le_max_left ..) _ _ _ (hM q hq)
theorem CN {E:Env} {tab:ze} {M:Nat} (hM: ∀p ∈ tab,call E M p.1 p.2.1=some p.2.2): ∀n,MV (wK E tab n) (exec E (M+n))
 | 0=>by intro c σ x e;simp[wK] at e
 | n+1=>by
   have ih:=CN hM n
   have hC:FV (Gg tab (dm E (wK E tab n))) (call E (M+n)):=by
    intro f as r e
    unfold Gg at e
    split at e
    · rename_i p hp
      injection e with e;subst e
      have h1:=List.find?_some hp
      have h2:=List.mem_of_find?_eq_some hp
      simp only[Bool.and_eq_true,Nat.beq_eq] at h1
      have h3:=V.fM h1.2
      rw[←h1.1,←h3]
      exact eh (Nat.le_add_right ..) _ _ _ (hM p h2)
    · exact iC ih _ _ _ e
   have:=oI (E:=E) hC ih
   intro c σ x e
   exact this _ _ _ e
theorem Ev.I9 {E:Env} {tab:ze} (h: ∀p ∈ tab,Ev E p.1 p.2.1 p.2.2) {n f:Nat} {as:List V} {r:fL} (e:zf E tab n f as=some r):Ev E f as r:=by
 obtain⟨M,hM⟩:=zh tab h
 exact⟨M+n,iC (CN hM n) _ _ _ e⟩
end Go.AM
