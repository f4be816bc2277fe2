/-
  Texts of the proof: AmWp, AmSim, AmSortL, AmTab, AmOdd8, AmHyb, AmOth, AmS, AmS2, AmS3, AmS4, AmS5.
-/
import Derived.Test.YtjmcpijpclfakaaGreatDefs
import Derived.Attr
set_option linter.unusedSimpArgs false
set_option linter.unusedVariables false
namespace Go.AM
def Nv (C C':bO):Prop:= ∀f as r,C f as=some r→C' f as=some r
theorem Act.jX {C C':bO} (h:Nv C C'): ∀ (a:Act) (σ:St) (r:V×St),a.run C σ=some r→a.run C' σ=some r
 | .done v,σ,r,e=>by simpa [Act.run] using e
 | .fail,σ,r,e=>by simp[Act.run] at e
 | .oR t k,σ,r,e=>by simp only[Act.run] at e ⊢;exact Act.jX h _ _ _ e
 | .cr t k,σ,r,e=>by simp only[Act.run] at e ⊢;exact Act.jX h _ _ _ e
 | .bW t o k,σ,r,e=>by simp only[Act.run] at e ⊢;exact Act.jX h _ _ _ e
 | .call f as k,σ,r,e=>by
   simp only[Act.run] at e ⊢
   split at e
   · rename_i res jY
     rw[h f as res jY]
     exact Act.jX h _ _ _ e
   · simp at e
theorem Act.jz {C C':bO} (h:Nv C C'): ∀ (a:Act) (σ:St) (r:V×St),a.run C σ=some r→a.fi C' σ=a.fi C σ
 | .done v,σ,r,e=>by simp[Act.fi]
 | .fail,σ,r,e=>by simp[Act.run] at e
 | .oR t k,σ,r,e=>by simp only[Act.run] at e;simp only[Act.fi];rw[Act.jz h _ _ _ e]
 | .cr t k,σ,r,e=>by simp only[Act.run] at e;simp only[Act.fi];rw[Act.jz h _ _ _ e]
 | .bW t o k,σ,r,e=>by simp only[Act.run] at e;simp only[Act.fi];rw[Act.jz h _ _ _ e]
 | .call f as k,σ,r,e=>by
   simp only[Act.run] at e
   simp only[Act.fi]
   split at e
   · rename_i res jY
     rw[h f as res jY]
     simp only
     exact Act.jz h _ _ _ e
   · simp at e
theorem yc {E:Env} {C C':bO} (h:Nv C C') {o:cF} {σ σ':St} (e:fU E C o σ=some σ'):fU E C' o σ=some σ':=by
 unfold fU at e ⊢
 split at e
 · rename_i v σ1 hr
   rw[Act.jX h _ _ _ hr];exact e
 · simp at e
theorem pd {E:Env} {C C':bO} (h:Nv C C'): ∀ {os:List cF} {σ σ':St},ko E C os σ=some σ'→ko E C' os σ=some σ'
 | [],_,_,e=>by simpa [ko] using e
 | o::os,_,_,e=>by
   simp only[ko] at e ⊢
   split at e
   · rename_i σ1 h1
     rw[yc h h1]
     exact pd h e
   · simp at e
theorem Ah {E:Env} {C C':bO} (h:Nv C C') {o:cF} {σ σ':St} (e:fU E C o σ=some σ'):dH E C' o σ=dH E C o σ:=by
 unfold fU at e
 split at e
 · rename_i v σ1 hr
   simp only[dH,Act.jz h _ _ _ hr]
 · simp at e
theorem mF {E:Env} {C C':bO} (h:Nv C C'): ∀ {os:List cF} {cL:List fK} {before:List (List Nat)} {σ σ':St},eV E C os cL before σ=some σ'→eV E C' os cL before σ=some σ'
 | [],_,_,_,_,e=>by simpa [eV] using e
 | o::os,cL,before,σ,_,e=>by
   simp only[eV] at e ⊢
   split at e
   · rename_i hc
     split at e
     · rename_i σ1 h1
       rw[Ah h h1,yc h h1,if_pos hc]
       exact mF h e
     · simp at e
   · simp at e
def YB (r r':aB→St→Option (bF×St)):Prop:= ∀c σ x,r c σ=some x→r' c σ=some x
theorem wv {E:Env} {r r':aB→St→Option (bF×St)} (h:YB r r'):Nv (kp E r) (kp E r'):=by
 intro f as res e
 unfold kp at e ⊢
 split at e
 · exact e
 · split at e
   · split at e
     · rename_i hl
       rw[if_pos hl]
       split at e
       · split at e
         · rename_i σ hx;rw[h _ _ _ hx];exact e
         · rename_i σ hx;rw[h _ _ _ hx];exact e
         · simp at e
       · split at e
         · rename_i hp
           rw[if_pos hp]
           split at e
           · rename_i σ hx;rw[h _ _ _ hx];exact e
           · rename_i σ hx;rw[h _ _ _ hx];exact e
           · simp at e
         · simp at e
     · simp at e
   · simp at e
theorem rC {E:Env} {r r':aB→St→Option (bF×St)} (h:YB r r'):Nv (eH E r) (eH E r'):=by
 intro f as res e
 unfold eH at e ⊢
 split at e
 · rename_i g hg
   exact E.mono f g hg _ _ (wv h) _ _ e
 · exact wv h _ _ _ e
theorem Ai {E:Env} {C C':bO} (hC:Nv C C') {r r':aB→St→Option (bF×St)} (h:YB r r'):YB (aT E C r) (aT E C' r'):=by
 intro c σ x e
 cases c with
 | skip=>simpa [aT] using e
 | region ops=>
   simp only[aT,Option.map_eq_some_iff] at e ⊢
   obtain⟨σ1,h1,h2⟩:=e
   exact⟨σ1,pd hC h1,h2⟩
 | drawn ops=>
   simp only[aT,Option.map_eq_some_iff] at e ⊢
   obtain⟨σ1,h1,h2⟩:=e
   exact⟨σ1,mF hC h1,h2⟩
 | seq a b=>
   simp only[aT] at e ⊢
   split at e
   · rename_i σ1 h1;rw[h _ _ _ h1];exact h _ _ _ e
   · rename_i hn
     rw[h _ _ _ e]
     rcases x with⟨ex,σ1⟩
     cases ex with
     | normal=>exact absurd e (by simpa using hn σ1)
     | _=>rfl
 | cond c a b=>
   simp only[aT] at e ⊢
   split at e
   · exact h _ _ _ e
   · exact h _ _ _ e
   · simp at e
 | block id b=>
   simp only[aT] at e ⊢
   split at e
   · rename_i kj σ1 h1;rw[h _ _ _ h1];exact e
   · rename_i hn
     rw[h _ _ _ e]
     rcases x with⟨ex,σ1⟩
     cases ex with
     | exit kj=>exact absurd e (by simpa using hn kj σ1)
     | _=>rfl
 | loop b=>
   simp only[aT] at e ⊢
   split at e
   · rename_i σ1 h1;rw[h _ _ _ h1];exact h _ _ _ e
   · rename_i hn
     rw[h _ _ _ e]
     rcases x with⟨ex,σ1⟩
     cases ex with
     | normal=>exact absurd e (by simpa using hn σ1)
     | _=>rfl
 | exit id=>simpa [aT] using e
 | ret=>simpa [aT] using e
 | scope b=>simp only[aT] at e ⊢;exact h _ _ _ e
 | bad=>simp[aT] at e
 | pf fx ps a b=>
   simp only[aT] at e ⊢
   split at e
   · rename_i g caps hg
     try simp only[hg]
     split at e
     · rename_i xs GX
       try simp only[GX]
       split at e
       · rename_i hc
         try rw[if_pos hc]
         exact vj h e
       · simp at e
     · simp at e
   · simp at e
 | keys it nx ne id kT kO hd b l=>
   simp only[aT] at e ⊢
   split at e
   · rename_i ri g hT
     try simp only[hT]
     split at e
     · rename_i es hO
       try simp only[hO]
       split at e
       · rename_i hc
         try rw[if_pos hc]
         split at e
         · rename_i σ1 σs hr
           rw[nE (fun p y hy=>qA h hy) hr]
           exact e
         · simp at e
       · simp at e
     · simp at e
   · simp at e
theorem AE {E:Env}: ∀n,YB (exec E n) (exec E (n+1))
 | 0=>by intro c σ x e;simp[exec] at e
 | n+1=>by
   have ih:=AE (E:=E) n
   have:=Ai (E:=E) (rC (E:=E) ih) ih
   intro c σ x e
   simp only[exec] at e ⊢
   exact this _ _ _ e
theorem dr {E:Env} {n m:Nat} (h:n≤m):YB (exec E n) (exec E m):=by
 induction h with
 | refl=>exact fun _ _ _ e=>e
 | step _ ih=>exact fun c σ x e=>AE _ _ _ _ (ih c σ x e)
theorem iJ {E:Env} {n m:Nat} (h:n≤m):Nv (call E n) (call E m):=rC (dr h)
def Ev (E:Env) (f:Nat) (args:List V) (res:iE):Prop:= ∃n,call E n f args=some res
def St.bW (σ:St) (r:Nat) (o:Obj):St:={σ with O:=eI σ.O r o}
inductive Tg {α β:Type} (a:α) (b:β):Type
 | mk
def AF (E:Env) (a:Act) (σ:St) (Q:V→St→Prop) (_:Tg σ Q:= .mk):Prop:= ∃n v σ',a.run (call E n) σ=some (v,σ')∧Q v σ'
def NR (E:Env) (os:List cF) (σ:St) (Q:St→Prop) (_:Tg os (σ,Q):= .mk):Prop:= ∃n σ',ko E (call E n) os σ=some σ'∧Q σ'
def oS (E:Env) (c:aB) (σ:St) (Q:bF→St→Prop) (_:Tg c (σ,Q):= .mk):Prop:= ∃n e σ',exec E n c σ=some (e,σ')∧Q e σ'
def sS (E:Env) (a:Act) (σ:St) (Q:V→St→List Loc→List Loc→Prop) (_:Tg σ Q:= .mk):Prop:= ∃n v σ',a.run (call E n) σ=some (v,σ')∧Q v σ' (a.fi (call E n) σ).reads (a.fi (call E n) σ).writes
def QS (E:Env) (cL:List fK) (before:List (List Nat)) (os:List cF) (σ:St) (Q:St→Prop):Prop:= ∃n σ',eV E (call E n) os cL before σ=some σ'∧Q σ'
section
variable {E:Env} {σ:St}
theorem tg {v:V} {Q:V→St→Prop}:AF E (.done v) σ Q=Q v σ:=by
 simp only[AF,Act.run,eq_iff_iff]
 constructor
 · rintro⟨_,_,_,h,q⟩;injection h with h;injection h with h1 h2;subst h1 h2;exact q
 · exact fun q=> ⟨0,_,_,rfl,q⟩
theorem th {Q:V→St→Prop}:AF E .fail σ Q=False:=by
 simp[AF,Act.run]
theorem yd {t:Nat} {k:V→Act} {Q:V→St→Prop}:AF E (.oR t k) σ Q=AF E (k (σ.T t)) σ Q:=by
 simp[AF,Act.run]
theorem ye {t:Nat} {k:Obj→Act} {Q:V→St→Prop}:AF E (.cr t k) σ Q=AF E (k (σ.O t)) σ Q:=by
 simp[AF,Act.run]
theorem yf {t:Nat} {o:Obj} {k:Act} {Q:V→St→Prop}:AF E (.bW t o k) σ Q=AF E k (σ.bW t o) Q:=by
 simp[AF,Act.run,St.bW]
theorem BR {c:Prop} [Decidable c] {a b:Act} {Q:V→St→Prop}:AF E (if c then a else b) σ Q=if c then AF E a σ Q else AF E b σ Q:=by
 split<;>rfl
theorem yg {v:Option V} {Q:V→St→Prop}:AF E (dF v) σ Q=match v with| some v=>Q v σ| none=>False:=by
 cases v<;>simp[dF,tg,th]
theorem xE {Q:St→Prop}:NR E [] σ Q=Q σ:=by simp[NR,ko]
theorem tj {o:cF} {os:List cF} {Q:St→Prop}:NR E (o::os) σ Q=AF E (eM E o) σ fun v σ'=>NR E os (σ'.put o.dst v) Q:=by
 simp only[NR,AF,ko,fU,eq_iff_iff]
 constructor
 · rintro⟨n,σ2,h,q⟩
   split at h
   · rename_i σ1 h1
     split at h1
     · rename_i v σ0 h0
       injection h1 with h1;subst h1
       exact⟨n,v,σ0,h0,n,σ2,h,q⟩
     · simp at h1
   · simp at h
 · rintro⟨n,v,σ0,h0,m,σ2,h,q⟩
   refine⟨max n m,σ2,?_,q⟩
   rw[Act.jX (iJ (Nat.le_max_left n m)) _ _ _ h0]
   exact pd (iJ (Nat.le_max_right n m)) h
theorem pg {v:V} {Q:V→St→List Loc→List Loc→Prop}:sS E (.done v) σ Q=Q v σ [] []:=by
 simp only[sS,Act.run,Act.fi,eq_iff_iff]
 constructor
 · rintro⟨_,_,_,h,q⟩;injection h with h;injection h with h1 h2;subst h1 h2;exact q
 · exact fun q=> ⟨0,_,_,rfl,q⟩
theorem tk {Q:V→St→List Loc→List Loc→Prop}:sS E .fail σ Q=False:=by
 simp[sS,Act.run]
theorem tn {t:Nat} {k:V→Act} {Q:V→St→List Loc→List Loc→Prop}:sS E (.oR t k) σ Q=sS E (k (σ.T t)) σ fun v σ' r w=>Q v σ' (.t t::r) w:=by
 simp[sS,Act.run,Act.fi]
theorem ph {t:Nat} {k:Obj→Act} {Q:V→St→List Loc→List Loc→Prop}:sS E (.cr t k) σ Q=sS E (k (σ.O t)) σ fun v σ' r w=>Q v σ' (.o t::r) w:=by
 simp[sS,Act.run,Act.fi]
theorem tq {t:Nat} {o:Obj} {k:Act} {Q:V→St→List Loc→List Loc→Prop}:sS E (.bW t o k) σ Q=sS E k (σ.bW t o) fun v σ' r w=>Q v σ' r (.o t::w):=by
 simp[sS,Act.run,Act.fi,St.bW]
theorem Kp {f:Nat} {as:List V} {k:iE→Act} {Q:V→St→List Loc→List Loc→Prop}:sS E (.call f as k) σ Q= ∃res,Ev E f as res∧sS E (k res) σ Q:=by
 simp only[sS,eq_iff_iff]
 constructor
 · rintro⟨n,v,σ',h,q⟩
   simp only[Act.run,Act.fi] at h q
   split at h
   · rename_i res hr
     simp only[hr] at q
     exact⟨res,⟨n,hr⟩,n,v,σ',h,q⟩
   · simp at h
 · rintro⟨res,⟨n,hn⟩,m,v,σ',h,q⟩
   have e1:=iJ (E:=E) (Nat.le_max_left n m) _ _ _ hn
   have e2:=Act.jX (iJ (E:=E) (Nat.le_max_right n m)) _ _ _ h
   have e3:=Act.jz (iJ (E:=E) (Nat.le_max_right n m)) _ _ _ h
   refine⟨max n m,v,σ',?_,?_⟩
   · simp only[Act.run,e1];exact e2
   · simp only[Act.fi,e1,e3];exact q
theorem BS {c:Prop} [Decidable c] {a b:Act} {Q:V→St→List Loc→List Loc→Prop}:sS E (if c then a else b) σ Q=if c then sS E a σ Q else sS E b σ Q:=by
 split<;>rfl
theorem yh {v:Option V} {Q:V→St→List Loc→List Loc→Prop}:sS E (dF v) σ Q=match v with| some v=>Q v σ [] [] | none=>False:=by
 cases v<;>simp[dF,pg,tk]
theorem NS {cL:List fK} {before:List (List Nat)} {Q:St→Prop}:QS E cL before [] σ Q=Q σ:=by simp[QS,eV]
theorem Kq {cL:List fK} {before:List (List Nat)} {o:cF} {os:List cF} {Q:St→Prop}:
   QS E cL before (o::os) σ Q=sS E (eM E o) σ fun v σ' r w=>
     (fits cL (closure before o.pre) ⟨r,(match o.dst with| some d=> [.t d] | none=> [])++w⟩ cL.length &&o.pre.all (· <cL.length))=true∧
     QS E (cL++[⟨r,(match o.dst with| some d=> [.t d] | none=> [])++w⟩]) (before++[closure before o.pre]) os (σ'.put o.dst v) Q:=by
 have key: ∀n,eV E (call E n) (o::os) cL before σ=if (fits cL (closure before o.pre) (dH E (call E n) o σ) cL.length &&o.pre.all (· <cL.length))=true then
     (match fU E (call E n) o σ with| some σ'=>eV E (call E n) os (cL++[dH E (call E n) o σ]) (before++[closure before o.pre]) σ'| none=>none) else none:=fun n=>rfl
 have Zi: ∀n v σ0,(eM E o).run (call E n) σ=some (v,σ0)→fU E (call E n) o σ=some (σ0.put o.dst v):=fun n v σ0 h=>by simp only[fU,h]
 simp only[QS,sS,eq_iff_iff]
 constructor
 · rintro⟨n,σ2,h,q⟩
   rw[key n] at h
   by_cases hc: (fits cL (closure before o.pre) (dH E (call E n) o σ) cL.length &&o.pre.all (· <cL.length))=true
   · rw[if_pos hc] at h
     cases h0: (eM E o).run (call E n) σ with
     | none=>simp[fU,h0] at h
     | some p=>
       obtain⟨v,σ0⟩:=p
       rw[Zi n v σ0 h0] at h
       exact⟨n,v,σ0,h0,hc,n,σ2,h,q⟩
   · rw[if_neg hc] at h;simp at h
 · rintro⟨n,v,σ0,h0,hc,m,σ2,h,q⟩
   refine⟨max n m,σ2,?_,q⟩
   have e3:dH E (call E (max n m)) o σ=dH E (call E n) o σ:=by
     simp only[dH,Act.jz (iJ (E:=E) (Nat.le_max_left n m)) _ _ _ h0]
   have C9: (fits cL (closure before o.pre) (dH E (call E n) o σ) cL.length &&o.pre.all (· <cL.length))=true:=hc
   rw[key,e3,if_pos C9,Zi _ v σ0 (Act.jX (iJ (Nat.le_max_left n m)) _ _ _ h0)]
   exact mF (iJ (Nat.le_max_right n m)) h
def andThen (Q:bF→St→Prop) (k:St→Prop) (_:Tg Q k:= .mk):bF→St→Prop
 | .normal,σ=>k σ
 | .exit id,σ=>Q (.exit id) σ
 | .ret,σ=>Q .ret σ
def yi (id:Nat) (Q:bF→St→Prop) (_:Tg id Q:= .mk):bF→St→Prop
 | .exit kj,σ=>if kj=id then Q .normal σ else Q (.exit kj) σ
 | .normal,σ=>Q .normal σ
 | .ret,σ=>Q .ret σ
theorem lp {c:aB} {Q Q':bF→St→Prop} (h:oS E c σ Q) (k: ∀e σ',Q e σ'→Q' e σ'):oS E c σ Q':=by
 obtain⟨n,e,σ',h1,h2⟩:=h
 exact⟨n,e,σ',h1,k _ _ h2⟩
theorem tu {Q:bF→St→Prop}:oS E .skip σ Q=Q .normal σ:=by
 simp only[oS,eq_iff_iff]
 constructor
 · rintro⟨n,e,σ',h,q⟩
   cases n<;>simp[exec,aT] at h
   obtain⟨rfl,rfl⟩:=h;exact q
 · exact fun q=> ⟨1,_,_,by simp[exec,aT],q⟩
theorem tw {id:Nat} {Q:bF→St→Prop}:oS E (.exit id) σ Q=Q (.exit id) σ:=by
 simp only[oS,eq_iff_iff]
 constructor
 · rintro⟨n,e,σ',h,q⟩
   cases n<;>simp[exec,aT] at h
   obtain⟨rfl,rfl⟩:=h;exact q
 · exact fun q=> ⟨1,_,_,by simp[exec,aT],q⟩
theorem xF {Q:bF→St→Prop}:oS E .ret σ Q=Q .ret σ:=by
 simp only[oS,eq_iff_iff]
 constructor
 · rintro⟨n,e,σ',h,q⟩
   cases n<;>simp[exec,aT] at h
   obtain⟨rfl,rfl⟩:=h;exact q
 · exact fun q=> ⟨1,_,_,by simp[exec,aT],q⟩
theorem qB {b:aB} {Q:bF→St→Prop}:oS E (.scope b) σ Q=oS E b σ Q:=by
 simp only[oS,eq_iff_iff]
 constructor
 · rintro⟨n,e,σ',h,q⟩
   cases n with
   | zero=>simp[exec] at h
   | succ n=>simp only[exec,aT] at h;exact⟨n,e,σ',h,q⟩
 · rintro⟨n,e,σ',h,q⟩
   exact⟨n+1,e,σ',by simpa only[exec,aT] using h,q⟩
theorem nF {ops:List cF} {Q:bF→St→Prop}:oS E (.region ops) σ Q=NR E ops σ (Q .normal):=by
 simp only[oS,NR,eq_iff_iff]
 constructor
 · rintro⟨n,e,σ',h,q⟩
   cases n with
   | zero=>simp[exec] at h
   | succ n=>
     simp only[exec,aT,Option.map_eq_some_iff] at h
     obtain⟨σ1,h1,h2⟩:=h
     injection h2 with h2 h3
     subst h2 h3
     exact⟨n,_,h1,q⟩
 · rintro⟨n,σ',h,q⟩
   exact⟨n+1,_,σ',by simp only[exec,aT,Option.map_eq_some_iff];exact⟨σ',h,rfl⟩,q⟩
theorem IC {ops:List cF} {Q:bF→St→Prop}:oS E (.drawn ops) σ Q=QS E [] [] ops σ (Q .normal):=by
 simp only[oS,QS,eq_iff_iff]
 constructor
 · rintro⟨n,e,σ',h,q⟩
   cases n with
   | zero=>simp[exec] at h
   | succ n=>
     simp only[exec,aT,Option.map_eq_some_iff] at h
     obtain⟨σ1,h1,h2⟩:=h
     injection h2 with h2 h3
     subst h2 h3
     exact⟨n,_,h1,q⟩
 · rintro⟨n,σ',h,q⟩
   exact⟨n+1,_,σ',by simp only[exec,aT,Option.map_eq_some_iff];exact⟨σ',h,rfl⟩,q⟩
theorem xG {a b:aB} {Q:bF→St→Prop}:oS E (.seq a b) σ Q=oS E a σ (andThen Q fun σ'=>oS E b σ' Q):=by
 simp only[oS,eq_iff_iff]
 constructor
 · rintro⟨n,e,σ',h,q⟩
   cases n with
   | zero=>simp[exec] at h
   | succ n=>
     simp only[exec,aT] at h
     split at h
     · rename_i σ1 h1
       exact⟨n,_,_,h1,n,e,σ',h,q⟩
     · rename_i hn
       refine⟨n,e,σ',h,?_⟩
       cases e with
       | normal=>exact absurd h (by simpa using hn σ')
       | exit id=>exact q
       | ret=>exact q
 · rintro⟨n,e,σ1,h,q⟩
   cases e with
   | normal=>
     obtain⟨m,e,σ',h',q⟩:=q
     refine⟨max n m+1,e,σ',?_,q⟩
     simp only[exec,aT,dr (Nat.le_max_left n m) _ _ _ h]
     exact dr (Nat.le_max_right n m) _ _ _ h'
   | exit id=>exact⟨n+1,_,_,by simp only[exec,aT,h],q⟩
   | ret=>exact⟨n+1,_,_,by simp only[exec,aT,h],q⟩
theorem tA {c:bg} {a b:aB} {Q:bF→St→Prop}:oS E (.cond c a b) σ Q=match bM σ c with| .bool true=>oS E a σ Q| .bool false=>oS E b σ Q| _=>False:=by
 simp only[oS,eq_iff_iff]
 constructor
 · rintro⟨n,e,σ',h,q⟩
   cases n with
   | zero=>simp[exec] at h
   | succ n=>
     simp only[exec,aT] at h
     split at h
     · rename_i he;simp only[he];exact⟨n,e,σ',h,q⟩
     · rename_i he;simp only[he];exact⟨n,e,σ',h,q⟩
     · simp at h
 · intro h
   split at h
   · rename_i he
     obtain⟨n,e,σ',h,q⟩:=h
     exact⟨n+1,e,σ',by simp only[exec,aT,he];exact h,q⟩
   · rename_i he
     obtain⟨n,e,σ',h,q⟩:=h
     exact⟨n+1,e,σ',by simp only[exec,aT,he];exact h,q⟩
   · exact h.elim
theorem qC {id:Nat} {b:aB} {Q:bF→St→Prop}:oS E (.block id b) σ Q=oS E b σ (yi id Q):=by
 simp only[oS,eq_iff_iff]
 constructor
 · rintro⟨n,e,σ',h,q⟩
   cases n with
   | zero=>simp[exec] at h
   | succ n=>
     simp only[exec,aT] at h
     split at h
     · rename_i kj σ1 h1
       refine⟨n,_,_,h1,?_⟩
       simp only[yi]
       split at h
       · rename_i hi
         simp only[Option.some.injEq,Prod.mk.injEq] at h
         obtain⟨rfl,rfl⟩:=h
         simp only[hi,if_true];exact q
       · rename_i hi
         simp only[Option.some.injEq,Prod.mk.injEq] at h
         obtain⟨rfl,rfl⟩:=h
         simp only[hi,if_false];exact q
     · rename_i hn
       refine⟨n,e,σ',h,?_⟩
       cases e with
       | exit kj=>exact absurd h (by simpa using hn kj σ')
       | normal=>exact q
       | ret=>exact q
 · rintro⟨n,e,σ1,h,q⟩
   cases e with
   | exit kj=>
     simp only[yi] at q
     by_cases hi:kj=id
     · simp only[hi,if_true] at q
       exact⟨n+1,_,_,by simp only[exec,aT,h,hi,if_true],q⟩
     · simp only[hi,if_false] at q
       exact⟨n+1,_,_,by simp only[exec,aT,h,hi,if_false],q⟩
   | normal=>exact⟨n+1,_,_,by simp only[exec,aT,h],q⟩
   | ret=>exact⟨n+1,_,_,by simp only[exec,aT,h],q⟩
theorem Kr {b:aB} {Q:bF→St→Prop}:oS E (.loop b) σ Q=oS E b σ (andThen Q fun σ'=>oS E (.loop b) σ' Q):=by
 simp only[oS,eq_iff_iff]
 constructor
 · rintro⟨n,e,σ',h,q⟩
   cases n with
   | zero=>simp[exec] at h
   | succ n=>
     simp only[exec,aT] at h
     split at h
     · rename_i σ1 h1
       exact⟨n,_,_,h1,n,e,σ',h,q⟩
     · rename_i hn
       refine⟨n,e,σ',h,?_⟩
       cases e with
       | normal=>exact absurd h (by simpa using hn σ')
       | exit id=>exact q
       | ret=>exact q
 · rintro⟨n,e,σ1,h,q⟩
   cases e with
   | normal=>
     obtain⟨m,e,σ',h',q⟩:=q
     refine⟨max n m+1,e,σ',?_,q⟩
     simp only[exec,aT,dr (Nat.le_max_left n m) _ _ _ h]
     exact dr (Nat.le_max_right n m) _ _ _ h'
   | exit id=>exact⟨n+1,_,_,by simp only[exec,aT,h],q⟩
   | ret=>exact⟨n+1,_,_,by simp only[exec,aT,h],q⟩
theorem Dm {b:aB} {Q:bF→St→Prop} (I:Nat→St→Prop) (hI: ∀k σ,I k σ→oS E b σ (andThen Q fun σ'=> ∃j,j<k∧I j σ')):
   ∀ (k:Nat) (σ:St),I k σ→oS E (.loop b) σ Q:=by
 intro k
 induction k using Nat.strongRecOn with
 | _ k ih=>
   intro σ h
   rw[Kr]
   refine lp (hI k σ h) fun e σ' he=> ?_
   cases e with
   | normal=>obtain⟨j,hj,h'⟩:=he;exact ih j hj σ' h'
   | exit id=>exact he
   | ret=>exact he
def fin (rs:List sf) (args:List V) (res:iE):bF→St→Prop
 | .exit _,_=>False
 | .normal,σ=>leave ⟨0,0,[],rs,.skip,none⟩ args σ=some res
 | .ret,σ=>leave ⟨0,0,[],rs,.skip,none⟩ args σ=some res
theorem Ev.ext {f:Nat} {args:List V} {res:iE} (h:E.ext f args=some res) (hh:E.hyb f=none:=by rfl):Ev E f args res:=⟨0,by simp[call,eH,kp,h,hh]⟩
end
end Go.AM
namespace Go.AM
section
variable {E:Env} {σ:St}
def vk (E:Env):List cF→St→(List fK→St→Prop)→Prop
 | [],σ,Q=>Q [] σ
 | o::os,σ,Q=>sS E (eM E o) σ fun v σ' r w=>vk E os (σ'.put o.dst v) fun fs σ''=>Q (⟨r,(match o.dst with| some d=> [.t d] | none=> [])++w⟩::fs) σ''
def Zj (E:Env) (os:List cF) (σ:St) (Q:List fK→St→Prop) (_:Tg os (σ,Q):= .mk):Prop:=vk E os σ Q
def vl (d:Option Nat) (w:List Loc):List Loc:=match d with| some d=> .t d::w| none=>w
theorem xH {Q:List fK→St→Prop}:Zj E [] σ Q=Q [] σ:=rfl
theorem tB {o:cF} {os:List cF} {Q:List fK→St→Prop}:Zj E (o::os) σ Q=sS E (eM E o) σ fun v σ' r w=>Zj E os (σ'.put o.dst v) fun fs σ''=>Q (⟨r,vl o.dst w⟩::fs) σ'':=by
 have: ∀w,(match o.dst with| some d=> [Loc.t d] | none=> [])++w=vl o.dst w:=by intro w;cases o.dst<;>rfl
 have h2: (fun (v:V) (σ':St) (r w:List Loc)=>vk E os (σ'.put o.dst v) fun fs σ''=>Q (⟨r,(match o.dst with| some d=> [.t d] | none=> [])++w⟩::fs) σ'')=(fun v σ' r w=>vk E os (σ'.put o.dst v) fun fs σ''=>Q (⟨r,vl o.dst w⟩::fs) σ''):=by
  funext v σ' r w;rw[this]
 show sS E (eM E o) σ (fun (v:V) (σ':St) (r w:List Loc)=>vk E os (σ'.put o.dst v) fun fs σ''=>Q (⟨r,(match o.dst with| some d=> [.t d] | none=> [])++w⟩::fs) σ'')=_
 rw[h2];rfl
def QT:List (List Nat)→List (List Nat)→List fK→List fK→Bool
 | [],_,_,_=>true
 | p::ps,before,cL,f::rest=> (fits cL (closure before p) f cL.length &&p.all (· <cL.length)) &&QT ps (before++[closure before p]) (cL++[f]) rest
 | _::_,_,_,[]=>false
theorem pj {a:Act} {Q Q':V→St→List Loc→List Loc→Prop} (h:sS E a σ Q) (k: ∀v σ' r w,Q v σ' r w→Q' v σ' r w):sS E a σ Q':=by
 obtain⟨n,v,σ',h1,h2⟩:=h
 exact⟨n,v,σ',h1,k _ _ _ _ h2⟩
theorem tC: ∀ {os:List cF} {σ:St} {Q Q':List fK→St→Prop},vk E os σ Q→(∀fs σ',Q fs σ'→Q' fs σ')→vk E os σ Q'
 | [],_,_,_,h,k=>k _ _ h
 | o::os,_,_,_,h,k=>by
   simp only[vk] at h ⊢
   exact pj h fun v σ' r w h'=>tC h' fun fs σ'' h''=>k _ _ h''
theorem Ks {Q:St→Prop}: ∀ {os:List cF} {σ:St} {cL:List fK} {before:List (List Nat)},
   vk E os σ (fun fs σ'=>QT (os.map (·.pre)) before cL fs=true∧Q σ')→QS E cL before os σ Q
 | [],_,_,_,h=>by rw[NS];exact h.2
 | o::os,σ,cL,before,h=>by
   rw[Kq]
   simp only[vk,List.map_cons,QT,Bool.and_eq_true] at h
   refine pj h fun v σ' r w h'=> ?_
   have h1:vk E os (σ'.put o.dst v) (fun fs σ''=> (fits cL (closure before o.pre) ⟨r,(match o.dst with| some d=> [.t d] | none=> [])++w⟩ cL.length &&o.pre.all (· <cL.length))=true):=
    tC h' fun fs σ'' hh=>by
      have:=hh.1
      simp only[List.map_cons,QT,Bool.and_eq_true] at this
      simp only[Bool.and_eq_true];exact this.1
   have const: ∀ {os:List cF} {σ:St} {p:Prop},vk E os σ (fun _ _=>p)→p:=by
    intro os
    induction os with
    | nil=>intro σ p h;exact h
    | cons o os ih=>
      intro σ p h
      simp only[vk] at h
      obtain⟨n,v,σ',_,h2⟩:=h
      exact ih h2
   refine⟨const h1,Ks (tC h' fun fs σ'' hh=> ⟨by have:=hh.1;simp only[List.map_cons,QT,Bool.and_eq_true] at this;exact this.2,hh.2⟩)⟩
theorem BT {ops:List cF} {Q:bF→St→Prop} (h:Zj E ops σ (fun fs σ'=>QT (ops.map (·.pre)) [] [] fs=true∧Q .normal σ')):oS E (.drawn ops) σ Q:=by
 rw[IC];exact Ks h
theorem Kt {d t:Nat} {v:V}: (σ.put (some d) v).T t=if t=d then v else σ.T t:=rfl
theorem Ku {d:Option Nat} {r:Nat} {v:V}: (σ.put d v).O r=σ.O r:=by cases d<;>rfl
theorem yj {v:V}:σ.put none v=σ:=rfl
theorem Ft {r t:Nat} {o:Obj}: (σ.bW r o).T t=σ.T t:=rfl
theorem Fu {r r':Nat} {o:Obj}: (σ.bW r o).O r'=if r'=r then o else σ.O r':=rfl
theorem jZ {t:Nat}:bM σ (.tmp t)=σ.T t:=rfl
theorem jO {v:V}:bM σ (.const v)=v:=rfl
theorem jP: ∀ {cs:List V},V.ae cs=true→ ∀ {x:V},x ∈ cs→x.aj=true
 | [],_,x,h=>by simp at h
 | c::cs,h,x,hx=>by
   simp only[V.ae,Bool.and_eq_true] at h
   rcases List.mem_cons.1 hx with rfl| hx
   · exact h.1
   · exact jP h.2 hx
theorem sg: ∀ {cs:List V},(∀x ∈ cs,V.aj x=true)→V.ae cs=true
 | [],_=>rfl
 | c::cs,h=>by
   simp only[V.ae,Bool.and_eq_true]
   exact⟨h c (by simp),sg fun x hx=>h x (by simp[hx])⟩
theorem iF {args:List V} (h:V.ae args=true):enter args=⟨fun t=>args.getD t fj,fun _=>cb⟩:=by
 have key: ∀ (t:Nat) (a:V),args[t]? =some a→a.aj=true:=fun t a ht=>jP h (List.mem_of_getElem? ht)
 unfold enter
 congr 1
 · funext t
   cases ha:args[t]? with
   | none=>simp[List.getD,ha]
   | some a=>have:=key t a ha;simp only[List.getD,ha,Option.getD_some];cases a<;>simp_all[V.aj]
 · funext t
   cases ha:args[t]? with
   | none=>rfl
   | some a=>have:=key t a ha;cases a<;>simp_all[V.aj]
theorem lq {b6:Bool} {r:Nat} {gs:List (Nat×Nat×Nat)} {v:V} {k:V→Act} (h:v.aj=true):df b6 r gs v k=k v:=by
 simp[df,h]
end
def nG (sz dW:Nat):List V→Option iE
 | [.nils]=>some ⟨.own sz [],[]⟩
 | [.lit sz' xs]=>if sz'=sz∧xs.length≤dW then some ⟨.own sz xs,[]⟩ else none
 | _=>none
theorem yk {v:V} {k:V→Act} (h:v.aj=true):xn v k=k v:=by
 cases v<;>simp_all[xn]
theorem iK {O:Nat→Obj}: ∀ {args:List V} {i:Nat},V.ae args=true→cA O i args=some []
 | [],_,_=>rfl
 | a::as,i,h=>by
   simp only[V.ae,Bool.and_eq_true] at h
   have:=iK (O:=O) (i:=i+1) h.2
   cases a<;>simp_all[cA,V.aj]
theorem nH {n:Nat} {σ:St} {v:V} (h:v.aj=true):dI n σ v=some (v,[]):=by
 simp[dI,h]
theorem vm {sz:Nat} {v:V} (h:v.aV=true):part false 0 sz v=some v:=by
 cases v<;>simp_all[part,V.aV]
def Dn (sz:Nat) (xs:List V) (v:V):Prop:=v= .lit sz xs∨v= .nils∧xs=[]
theorem Dn.pure {sz:Nat} {xs:List V} {v:V} (h:Dn sz xs v):v.aj=true:=by
 rcases h with rfl| ⟨rfl,_⟩ <;>rfl
theorem Dn.len {sz:Nat} {xs:List V} {v:V} (h:Dn sz xs v):rf v=some (.int .i64 xs.length):=by
 rcases h with rfl| ⟨rfl,rfl⟩ <;>rfl
theorem Dn.lit {sz:Nat} {xs:List V}:Dn sz xs (.lit sz xs):= .inl rfl
theorem Dn.aV {sz:Nat} {xs:List V} {v:V} (h:Dn sz xs v):v.aV=true:=by
 rcases h with rfl| ⟨rfl,_⟩ <;>rfl
def jA (sz:Nat) (v i:V):Act:=
 match v,i with
 | .sl r g off len,.int _ n=> .cr r fun o=>if 0≤n∧n<len∧o.sz=sz∧o.gen=g then .done (.ptr r g (off+n.toNat) 0) else .fail
 | .lit sz' xs,.int _ n=>if 0≤n∧sz'=sz then match xs[n.toNat]? with
    | some e=> .done (.eptr e 0)
    | none=> .fail
   else .fail
 | .litk sz' xs,.int _ n=>if 0≤n∧sz'=sz∧0 <sz then match xs[n.toNat]? with
    | some e=> .done (.epk n.toNat sz e 0)
    | none=> .fail
   else .fail
 | _,_=> .fail
theorem jQ {E:Env} {sz:Nat} {x i:bg}:aF E (.indexAddr sz x i)=ev x fun v=>ev i fun i=>jA sz v i:=rfl
def sh ( sz:Nat) (v:V) (l h m:Option V):Act:=
 match v with
 | .sl r g off len=> .cr r fun o=>match o.es with
   | some es=>if o.gen=g∧o.sz=sz then
      match cf 0 l,cf len h,m with
      | some l,some h,none=>if l≤h∧off+h≤es.length then .done (.sl r g (off+l) (h - l)) else .fail
      | some l,some h',some m=>match h,cf 0 (some m) with
        | some _,some m=>if l≤h'∧h'≤m∧off+m≤es.length then .done (if m=l then .nils else .any) else .fail
        | _,_=> .fail
      | _,_,_=> .fail
     else .fail
   | none=> .fail
 | v=>dF (lr sz v l h m)
theorem qD {E:Env} {sz:Nat} {x:bg} {lo hi mx:Option bg}:aF E (.slice sz x lo hi mx)=ev x fun v=>Aa lo fun l=>Aa hi fun h=>Aa mx fun m=>sh sz v l h m:=rfl
def yl (r sz dW:Nat) (s:V) (ys:List V):Act:=
 if ys.all (aZ · sz) &&decide (0 <sz) then match s with
  | .nils=>if ys.isEmpty then .done .nils else if ys.length≤dW then
      .cr r fun o=> .bW r {gen:=o.gen+1,sz,arr:=true,fz:=false,es:=some ys} (.done (.sl r (o.gen+1) 0 ys.length)) else .fail
  | .lit sz' xs=>if ys.isEmpty then .done (.lit sz' xs) else .fail
  | .sl r' g off len=> .cr r' fun o=>match o.es with
    | some es=>if o.gen=g∧o.arr=true∧o.fz=false∧o.sz=sz∧off+len≤es.length∧len+ys.length≤dW then
        if off+len+ys.length≤es.length then
             .bW r' {o with es:=some (overwrite es (off+len) ys)} (.done (.sl r' g off (len+ys.length)))
        else
             .bW r' {o with gen:=g+1,es:=some (bb es off len++ys)} (.done (.sl r' (g+1) 0 (len+ys.length)))
      else .fail
    | none=> .fail
  | _=> .fail
  else .fail
theorem nK {E:Env} {r sz dW:Nat} {s x:bg}:aF E (.append r sz dW s x)=ev s fun s=>ev x fun x=>content sz x fun ys=>kJ ys fun ys=>yl r sz dW s ys:=rfl
theorem vn {ys:List V} {k:List V→Act} (h:V.ae ys=true):kJ ys k=k ys:=by simp[kJ,h]
theorem Kv {r sz dW r' g off len:Nat} {ys:List V} (h:ys.all (aZ · sz)=true) (h0:0 <sz):yl r sz dW (.sl r' g off len) ys= .cr r' fun o=>match o.es with
  | some es=>if o.gen=g∧o.arr=true∧o.fz=false∧o.sz=sz∧off+len≤es.length∧len+ys.length≤dW then
     if off+len+ys.length≤es.length then
      .bW r' {o with es:=some (overwrite es (off+len) ys)} (.done (.sl r' g off (len+ys.length)))
     else
      .bW r' {o with gen:=g+1,es:=some (bb es off len++ys)} (.done (.sl r' (g+1) 0 (len+ys.length)))
    else .fail
  | none=> .fail:=by
 simp only[yl]
 rw[h];simp[h0]
theorem nL {xs:List V} {n:Nat} (h:n=xs.length):AM.bb xs 0 n=xs:=by
 subst h;simp[AM.bb]
def firstIdx {α:Type} (p:α→Bool) (xs:List α):Int:=match xs.findIdx? p with
 | some i=>i
 | none=> -1
theorem ec {α:Type} {p:α→Bool} {xs:List α} {i:Nat} {x:α} (h: ∀j y,j<i→xs[j]? =some y→p y=false) (hx:xs[i]? =some x) (hp:p x=true):firstIdx p xs=i:=by
 have:xs.findIdx? p=some i:=by
  rw[List.findIdx?_eq_some_iff_getElem]
  obtain⟨hl,hv⟩:=List.getElem?_eq_some_iff.1 hx
  refine⟨hl,by rw[hv];exact hp,fun j hj=> ?_⟩
  have:=h j _ hj (List.getElem?_eq_getElem (by omega))
  simp[this]
 simp[firstIdx,this]
theorem firstIdx_none {α:Type} {p:α→Bool} {xs:List α} (h: ∀ (j:Nat) (y:α),xs[j]? =some y→p y=false):firstIdx p xs= -1:=by
 have:xs.findIdx? p=none:=by
  rw[List.findIdx?_eq_none_iff]
  intro x hx
  obtain⟨j,hj⟩:=List.mem_iff_getElem?.1 hx
  exact h j x hj
 simp[firstIdx,this]
theorem tD (a b:Int): (a==b)=decide (a=b):=by
 by_cases h:a=b
 · simp[h]
 · simp[h]
theorem BU (a b:Int): (a !=b)= !decide (a=b):=by simp[bne,tD]
theorem wrap64 {n:Int} (h0: -9223372036854775808≤n) (h1:n≤9223372036854775807):IntKind.i64.wrap n=n:=by
 simp[IntKind.wrap,IntKind.bits,IntKind.signed]
 omega
attribute [go_sem] xG nF tu tw xF qB qC tA tj xE tB xH eM jQ qD nK aF.mh yd ye yf tg th yg BR tn ph tq pg tk yh BS aZ V.dX V.aj V.ae V.isScalar V.bS yk iK nH lq vm Kt Ku Ft Fu yj vl cb andThen yi jZ jO Kw fj iE.mk.injEq V.int.injEq V.tuple.injEq List.cons.injEq V.bool.injEq V.str.injEq V.agg.injEq List.getD_cons_zero List.getD_cons_succ List.getD_nil List.length_cons List.length_nil List.getElem?_cons_zero List.getElem?_cons_succ List.set_cons_zero List.set_cons_succ List.take_succ_cons List.take_zero List.drop_succ_cons List.drop_zero List.take_nil List.drop_nil List.cons_append List.nil_append List.append_nil Nat.zero_add Nat.add_zero BEq.rfl Bool.true_or Bool.or_true Bool.false_or Bool.or_false Bool.and_true Bool.true_and Bool.and_false Bool.false_and Bool.and_self Bool.or_self Bool.false_eq_true Bool.true_eq_false Bool.not_true Bool.not_false Nat.lt_add_one Nat.le_refl decide_true decide_false decide_eq_true_eq if_true if_false true_and and_true and_self false_and and_false Nat.sub_zero Option.some.injEq Nat.zero_lt_one Nat.lt_irrefl ne_eq not_true_eq_false not_false_eq_true V.cells.eq_1 V.cells.eq_2 V.isAgg.eq_1 V.isAgg.eq_2 V.aV.eq_1 V.aV.eq_2 V.aV.eq_3 V.aV.eq_4 V.aV.eq_5 V.aV.eq_6 V.aV.eq_7 V.isTuple.eq_1 V.isTuple.eq_2 AM.part.eq_1 AM.part.eq_2 AM.part.eq_3 AM.part.eq_4 AM.dY.eq_1 AM.dY.eq_2 AM.dY.eq_3 AM.dY.eq_4 rf.eq_1 rf.eq_2 rf.eq_3 rf.eq_4 cf.eq_1 cf.eq_2 cf.eq_3 gg.eq_1 gg.eq_2 content.eq_1 content.eq_2 content.eq_3 content.eq_4 content.eq_5 eG.eq_1 eG.eq_2 cX.eq_1 cX.eq_2 xn.eq_1 xn.eq_2 cZ.eq_1 cZ.eq_2 cZ.eq_3 cZ.eq_4 cZ.eq_5 cZ.eq_6 fw.eq_1 fw.eq_2 kJ.eq_1 kJ.go.eq_1 kJ.go.eq_2 df.eq_1 df.eq_2 fL.eq_1 fL.eq_2 eW.eq_1 eW.eq_2 cG.eq_1 cG.eq_2 cG.eq_3 dp.eq_1 dp.eq_2 cp.eq_1 cp.eq_2 bV.eq_1 bV.eq_2 dI.eq_1 dI.eq_2 dI.eq_3 da.eq_1 da.eq_2 fV.eq_1 fV.eq_2 dL.eq_1 dL.eq_2 cA.eq_1 cA.eq_2 cA.eq_3 cA.eq_4 cQ.eq_1 cQ.eq_2 cQ.eq_3 cQ.eq_4 cQ.eq_5 cQ.eq_6 cQ.eq_7 cQ.eq_8 cQ.eq_9 cQ.eq_10 cQ.eq_11 cQ.eq_12 cQ.eq_13 cQ.eq_14 cQ.eq_15 cQ.eq_16 cQ.eq_17 cQ.eq_18 cQ.eq_19 cQ.eq_20 cQ.eq_21 ew.eq_1 ew.eq_2 ew.eq_3 ew.eq_4 ew.eq_5 ew.eq_6 ew.eq_7 Fv.eq_1 Fv.eq_2 Fv.eq_3 Fv.eq_4 min2.eq_1 min2.eq_2 max2.eq_1 max2.eq_2 js.eq_1 js.eq_2 iZ.eq_1 iZ.eq_2 Aj.eq_1 Aj.eq_2 Aj.eq_3 Aj.eq_4 gk.eq_1 gk.eq_2 gk.eq_3 gp.eq_1 gp.eq_2 fu.eq_1 fu.eq_2 ev.eq_1 ev.eq_2 ym.eq_1 ym.eq_2 Aa.eq_1 Aa.eq_2 jA.eq_1 jA.eq_2 jA.eq_3 dF.eq_1 dF.eq_2 leave.eq_1 distinct.eq_1 distinct.eq_2 fin.eq_1 fin.eq_2 fin.eq_3 aF.eq_1 aF.eq_2 aF.eq_3 aF.eq_4 aF.eq_5 aF.eq_6 aF.eq_7 aF.eq_8 aF.eq_9 aF.eq_10 aF.eq_11 aF.eq_12 aF.eq_13 aF.eq_14 aF.eq_15 aF.eq_16 aF.eq_17 aF.eq_18 aF.eq_19 aF.eq_20 aF.eq_21 aF.eq_23 aF.eq_24 aF.eq_26 aF.eq_27 aF.eq_28 aF.eq_29 aF.eq_30 aF.eq_31 aF.eq_32 aF.eq_34 aF.eq_35 aF.eq_36 aF.eq_37 aF.eq_38 sh.eq_1 apart dg.eq_1 dg.eq_2 dB.eq_1 dB.eq_2 dB.eq_3 gJ.eq_1 gJ.eq_2 List.map_nil List.map_cons List.all_nil List.all_cons List.contains_nil List.contains_cons lr.eq_1 lr.eq_2 Option.isSome_some Option.isSome_none Option.isNone_none Option.isNone_some tD BU bne_self_eq_false Bool.bne_true Bool.bne_false Bool.true_bne Bool.false_bne nL List.isEmpty_cons List.isEmpty_nil eq_self List.replicate_succ List.replicate_zero vn Int.cast_ofNat_Int Int.toNat_zero Int.toNat_one Int.neg_ofNat_le_ofNat Int.natCast_nonneg Int.toNat_natCast Int.toNat_natCast_add_one Int.ofNat_lt wrap64 Int.le_refl
end Go.AM
namespace Go.AM
section
variable {α:Type}
end
end Go.AM
namespace Go.AM
def Zk (tab:List (Nat×aU)) (f:Nat):Option aU:=(tab.find? (·.1==f)).map (·.2)
def QU (tab:List (Nat× (List V→Option iE))) (f:Nat) (as:List V):Option iE:=match tab.find? (·.1==f) with
 | some p=>p.2 as
 | none=>none
structure Se where
 h: (Nat→List V→Option iE)→List V→Option iE
 mono: ∀ (C C':Nat→List V→Option iE),(∀g vs r,C g vs=some r→C' g vs=some r)→ ∀vs r,h C vs=some r→h C' vs=some r
def GY (tab:List (Nat×Se)) (f:Nat):Option ((Nat→List V→Option iE)→List V→Option iE):=(tab.find? (·.1==f)).map (·.2.h)
theorem Fw (tab:List (Nat×Se)): ∀f h,GY tab f=some h→ ∀ (C C':Nat→List V→Option iE),(∀g vs r,C g vs=some r→C' g vs=some r)→ ∀vs r,h C vs=some r→h C' vs=some r:=by
 intro f h hf
 unfold GY at hf
 rw[Option.map_eq_some_iff] at hf
 obtain⟨p,_,rfl⟩:=hf
 exact p.2.mono
def Kx (tab:List (Nat× (List V→Option (List (List V))))) (g:Nat) (caps:List V):Option (List (List V)):=match tab.find? (·.1==g) with
 | some p=>p.2 caps
 | none=>none
def Sg (tab:List (Nat×aU)) (ext:List (Nat× (List V→Option iE))) (hyb:List (Nat×Se)) (iter:List (Nat× (List V→Option (List (List V))))):Env:={fn:=Zk tab,ext:=QU ext,hyb:=GY hyb,mono:=Fw hyb,iter:=Kx iter}
abbrev od (d:Nat) (x:vb):cF:=⟨some d,x,none,[]⟩
abbrev op (d:Nat) (x:vb) (p:List Nat):cF:=⟨some d,x,none,p⟩
end Go.AM
namespace Go.AM
def yn (a n:Int):Int:=(IntKind.i64.wrap (a.tmod n+n)).tmod n
def Ky (k:Nat):List UInt8:=[109,UInt8.ofNat (97+k % 26),UInt8.ofNat (97+k / 26)]
def ID:List V:=[.int .i64 1,.int .i64 0,.int .i64 1,.int .i64 1,.bool false,.str [],.lit 7 []]
def rD (ws:List V) (k:Nat):V:= .agg (.str (Ky k):: .int .i64 0:: (ws++(ID++(ID++ID))))
def QV (v:V):Bool:=aZ v 30 &&V.aj v &&match v with
 | .agg cs=>cs.all V.aV
 | _=>false
def Fx:List V→Option iE
 | [.lit 30 vs,.agg [.int .i64 q0,.int .i64 q1,.int .i64 q2]]=>
   if yn q0 9=8∧0 <vs.length∧vs.length≤4∧vs.all QV=true then
     match vs[(yn q2 vs.length).toNat]? with
     | some (.agg cs)=>some ⟨.own 30 (vs++(List.range (30+(yn q1 12).toNat)).map (rD ((cs.drop 2).take 7))),[]⟩
     | _=>none
   else none
 | _=>none
def cF.swap (d:Nat) (op:vb) (o:cF):cF:=match o.dst with
 | some d'=>bif Nat.beq d' d then {o with op:=op} else o
 | none=>o
def agI (d:Nat) (op:vb):List cF→List cF
 | []=> []
 | o::l=>o.swap d op::agI d op l
def aB.swap (d:Nat) (op:vb):aB→aB
 | .region l=> .region (agI d op l)
 | .drawn l=> .drawn (agI d op l)
 | .seq a b=> .seq (a.swap d op) (b.swap d op)
 | .cond c a b=> .cond c (a.swap d op) (b.swap d op)
 | .block id b=> .block id (b.swap d op)
 | .loop b=> .loop (b.swap d op)
 | .scope b=> .scope (b.swap d op)
 | c=>c
end Go.AM
namespace Go.AM
end Go.AM
namespace Go.AM
end Go.AM
namespace Go.AM
structure SS where
 T:List (Nat×V)
 O:List (Nat×Obj)
def lk {α:Type}:List (Nat×α)→Nat→Option α
 | [],_=>none
 | (k,v)::l,n=>bif Nat.beq k n then some v else lk l n
def SS.On (S:SS) (σ:St):Prop:=(∀t v,lk S.T t=some v→σ.T t=v)∧(∀r o,lk S.O r=some o→σ.O r=o)
def SS.put (S:SS) (d:Option Nat) (v:V):SS:=match d with
 | some d=> ⟨(d,v)::S.T,S.O⟩
 | none=>S
def SS.bW (S:SS) (r:Nat) (o:Obj):SS:=⟨S.T,(r,o)::S.O⟩
theorem nM {α:Type} {p:Nat×α} {l:List (Nat×α)} {n:Nat}:lk (p::l) n=if p.1=n then some p.2 else lk l n:=by
 obtain⟨k,v⟩:=p
 simp only[lk]
 by_cases h:k=n
 · simp[h]
 · have:Nat.beq k n=false:=by
    cases hb:Nat.beq k n with
    | false=>rfl
    | true=>exact absurd (Nat.eq_of_beq_eq_true hb) h
   simp[h,this]
theorem SS.On.put {S:SS} {σ:St} (h:S.On σ) (d:Option Nat) (v:V): (S.put d v).On (σ.put d v):=by
 cases d with
 | none=>exact h
 | some d=>
   refine⟨fun t x hx=> ?_,fun r o ho=> ?_⟩
   · simp only[SS.put,nM] at hx
     show eI σ.T d v t=x
     unfold eI
     by_cases e:d=t
     · simp only[e,if_true,Option.some.injEq] at hx ⊢;exact hx
     · rw[if_neg e] at hx;rw[if_neg (Ne.symm e)];exact h.1 t x hx
   · exact h.2 r o ho
theorem SS.On.bW {S:SS} {σ:St} (h:S.On σ) (r:Nat) (o:Obj): (S.bW r o).On (σ.bW r o):=by
 refine⟨fun t x hx=>h.1 t x hx,fun r' x hx=> ?_⟩
 simp only[SS.bW,nM] at hx
 show eI σ.O r o r'=x
 unfold eI
 by_cases e:r=r'
 · simp only[e,if_true,Option.some.injEq] at hx ⊢;exact hx
 · rw[if_neg e] at hx;rw[if_neg (Ne.symm e)];exact h.2 r' x hx
inductive bR:Type 1 where
 | done (v:V)
 | fail
 | oR (t:Nat) (k:V→bR)
 | cr (r:Nat) (k:Obj→bR)
 | bW (r:Nat) (o:Obj) (k:bR)
 | mV (r:Nat) (k:Nat→bR)
 | call (f:Nat) (args:List V) (k:iE→bR)
 | cq (p:Prop) (k:bR)
 | ex (α:Type) (p:α→Prop) (k:α→bR)
 | ite (b:Bool) (x y:bR)
 | alt (x y:bR)
 | all (k:Nat→bR)
 | Zl (a:Act)
def Ref:bR→Act→Prop
 | .done v,a=>a= .done v
 | .fail,_=>True
 | .oR t k,a=> ∃k0,a= .oR t k0∧ ∀v,Ref (k v) (k0 v)
 | .cr r k,a=> ∃k0,a= .cr r k0∧ ∀o,Ref (k o) (k0 o)
 | .bW r o k,a=> ∃k0,a= .bW r o k0∧Ref k k0
 | .mV r k,a=> ∃k0,a= .cr r k0∧ ∀o:Obj,Ref (k (o.gen+1)) (k0 o)
 | .call f as k,a=> ∃k0,a= .call f as k0∧ ∀res,Ref (k res) (k0 res)
 | .cq p k,a=>p→Ref k a
 | .ex _ p k,a=> ∀x,p x→Ref (k x) a
 | .ite b x y,a=> (b=true→Ref x a)∧(b=false→Ref y a)
 | .alt x y,a=>Ref x a∧Ref y a
 | .all k,a=> ∃n,Ref (k n) a
 | .Zl b,a=>a=b
structure bU (p q:Prop):Prop where
 side:p
 rest:q
inductive bD {α:Type} (p q:α→Prop):Prop
 | mk (x:α) (h:p x) (k:q x)
structure Br (b:Bool) (p q:Prop):Prop where
 yes:b=true→p
 no:b=false→q
inductive av (E:Env) (f:Nat) (as:List V) (q:iE→Prop):Prop
 | mk (res:iE) (h:Ev E f as res) (k:q res)
theorem Br.tt {p q:Prop} (h:p):Br true p q:=⟨fun _=>h,fun h=>by cases h⟩
theorem Br.ff {p q:Prop} (h:q):Br false p q:=⟨fun h=> (by cases h),fun _=>h⟩
theorem Br.dec {c:Prop} {_:Decidable c} {p q:Prop} (h:c→p) (k: ¬c→q):Br (decide c) p q:=⟨fun e=>h (of_decide_eq_true e),fun e=>k (of_decide_eq_false e)⟩
theorem Br.afu {c:Prop} {_:Decidable c} {p q:Prop} (h: ¬c→p) (k:c→q):Br (!decide c) p q:=by
 refine⟨fun e=>h ?_,fun e=>k ?_⟩
 · simpa using e
 · simpa using e
theorem Br.t {c:Prop} {_:Decidable c} {p q:Prop} (h:c) (k:p):Br (decide c) p q:=⟨fun _=>k,fun e=>absurd h (of_decide_eq_false e)⟩
theorem Br.f {c:Prop} {_:Decidable c} {p q:Prop} (h: ¬c) (k:q):Br (decide c) p q:=⟨fun e=>absurd (of_decide_eq_true e) h,fun _=>k⟩
theorem Br.nt {c:Prop} {_:Decidable c} {p q:Prop} (h: ¬c) (k:p):Br (!decide c) p q:=⟨fun _=>k,fun e=>absurd ((by simpa using e:c)) h⟩
theorem Br.nf {c:Prop} {_:Decidable c} {p q:Prop} (h:c) (k:q):Br (!decide c) p q:=⟨fun e=>absurd h ((by simpa using e: ¬c)),fun _=>k⟩
theorem Br.bt {b:Bool} {p q:Prop} (h:b=true) (k:p):Br b p q:=⟨fun _=>k,fun e=> (by rw[h] at e;cases e)⟩
theorem Br.bf {b:Bool} {p q:Prop} (h:b=false) (k:q):Br b p q:=⟨fun e=> (by rw[h] at e;cases e),fun _=>k⟩
abbrev KK:=V→SS→List Loc→List Loc→Prop
structure afv (E:Env) (a:Act) (S:SS) (Q:KK):Prop where
 h: ∀σ,S.On σ→sS E a σ fun v σ' r w=> ∃S',S'.On σ'∧Q v S' r w
def eR (E:Env):bR→SS→KK→Prop
 | .done v,S,Q=>Q v S [] []
 | .fail,_,_=>False
 | .oR t k,S,Q=>match lk S.T t with
   | some v=>eR E (k v) S fun v S' r w=>Q v S' (.t t::r) w
   | none=>False
 | .cr t k,S,Q=>match lk S.O t with
   | some v=>eR E (k v) S fun v S' r w=>Q v S' (.o t::r) w
   | none=>False
 | .bW t o k,S,Q=>match S with
   | ⟨T,O⟩=>eR E k ⟨T,(t,o)::O⟩ fun v S' r w=>Q v S' r (.o t::w)
 | .mV t k,S,Q=> ∀g:Nat,eR E (k g) S fun v S' r w=>Q v S' (.o t::r) w
 | .call f as k,S,Q=>av E f as fun res=>eR E (k res) S Q
 | .cq p k,S,Q=>bU p (eR E k S Q)
 | .ex _ p k,S,Q=>bD p fun x=>eR E (k x) S Q
 | .ite b x y,S,Q=>Br b (eR E x S Q) (eR E y S Q)
 | .alt x y,S,Q=>eR E x S Q∨eR E y S Q
 | .all k,S,Q=> ∀n,eR E (k n) S Q
 | .Zl a,S,Q=>afv E a S Q
theorem dJ {E:Env}: ∀ {a2:bR} {a:Act} {S:SS} {Q:KK} {σ:St},Ref a2 a→eR E a2 S Q→S.On σ→sS E a σ fun v σ' r w=> ∃S',S'.On σ'∧Q v S' r w
 | .done v,a,S,Q,σ,hr,h,ho=>by
   simp only[Ref] at hr;subst hr
   rw[pg];exact⟨S,ho,h⟩
 | .fail,_,_,_,_,_,h,_=>by simp[eR] at h
 | .oR t k,a,S,Q,σ,hr,h,ho=>by
   obtain⟨k0,rfl,hk⟩:=hr
   rw[tn]
   simp only[eR] at h
   split at h
   · rename_i v hv
     rw[ho.1 t v hv]
     exact dJ (hk v) h ho
   · exact h.elim
 | .cr t k,a,S,Q,σ,hr,h,ho=>by
   obtain⟨k0,rfl,hk⟩:=hr
   rw[ph]
   simp only[eR] at h
   split at h
   · rename_i v hv
     rw[ho.2 t v hv]
     exact dJ (hk v) h ho
   · exact h.elim
 | .bW t o k,a,S,Q,σ,hr,h,ho=>by
   obtain⟨k0,rfl,hk⟩:=hr
   rw[tq]
   simp only[eR] at h
   obtain⟨T,O⟩:=S
   exact dJ hk h (ho.bW t o)
 | .mV t k,a,S,Q,σ,hr,h,ho=>by
   obtain⟨k0,rfl,hk⟩:=hr
   rw[ph]
   simp only[eR] at h
   exact dJ (hk (σ.O t)) (h _) ho
 | .call f as k,a,S,Q,σ,hr,h,ho=>by
   obtain⟨k0,rfl,hk⟩:=hr
   rw[Kp]
   simp only[eR] at h
   obtain⟨res,he,h⟩:=h
   exact⟨res,he,dJ (hk res) h ho⟩
 | .cq p k,a,S,Q,σ,hr,h,ho=>dJ (hr h.1) h.2 ho
 | .ex α p k,a,S,Q,σ,hr,h,ho=>by
   simp only[eR] at h
   obtain⟨x,hx,h⟩:=h
   exact dJ (hr x hx) h ho
 | .ite b x y,a,S,Q,σ,hr,h,ho=>by
   simp only[eR] at h
   simp only[Ref] at hr
   cases b with
   | true=>exact dJ (hr.1 rfl) (h.1 rfl) ho
   | false=>exact dJ (hr.2 rfl) (h.2 rfl) ho
 | .alt x y,a,S,Q,σ,hr,h,ho=>by
   simp only[eR] at h
   rcases h with h| h
   · exact dJ hr.1 h ho
   · exact dJ hr.2 h ho
 | .all k,a,S,Q,σ,hr,h,ho=>by
   obtain⟨n,hr⟩:=hr
   exact dJ hr (h n) ho
 | .Zl b,a,S,Q,σ,hr,h,ho=>by
   simp only[Ref] at hr
   subst hr
   exact h.h σ ho
end Go.AM
namespace Go.AM
def nth {α:Type}:List α→Nat→Option α
 | [],_=>none
 | x::_,0=>some x
 | _::l,n+1=>nth l n
theorem Fy {α:Type}: ∀ (l:List α) (n:Nat),nth l n=l[n]?
 | [],_=>by simp[nth]
 | _::_,0=>by simp[nth]
 | _::l,n+1=>by simp[nth,Fy l n]
def force {α:Type} {β:Type 1}:List α→(List α→β)→β
 | [],k=>k []
 | x::l,k=>force l fun l'=>k (x::l')
theorem force_eq {α:Type} {β:Type 1}: ∀ (l:List α) (k:List α→β),force l k=k l
 | [],_=>rfl
 | _::l,k=>by simp only[force,force_eq l]
def BV {α:Type}:List α→Nat→α→List α
 | [],_,_=> []
 | _::l,0,y=>y::l
 | x::l,n+1,y=>x::BV l n y
theorem xI {α:Type}: ∀ (l:List α) (n:Nat) (y:α),BV l n y=l.set n y
 | [],_,_=>by simp[BV]
 | _::_,0,_=>by simp[BV]
 | _::l,n+1,y=>by simp[BV,xI l n y]
def gq {α:Type}:List α→Nat→Bool
 | [],0=>true
 | _::l,n+1=>gq l n
 | _,_=>false
theorem lu {α:Type}: ∀ {l:List α} {n:Nat},gq l n=true→l.length=n
 | [],0,_=>rfl
 | _::l,n+1,h=>by simp only[gq] at h;simp[lu h]
 | [],_+1,h=>by simp[gq] at h
 | _::_,0,h=>by simp[gq] at h
def iL {α:Type}:List α→Nat→Bool
 | _,0=>true
 | _::l,n+1=>iL l n
 | [],_+1=>false
theorem mW {α:Type}: ∀ {l:List α} {n:Nat},iL l n=true→n≤l.length
 | _,0,_=>Nat.zero_le _
 | _::l,n+1,h=>by simp only[iL] at h;simpa using mW h
 | [],_+1,h=>by simp[iL] at h
def takeN {α:Type}:List α→Nat→List α
 | _,0=> []
 | x::l,n+1=>x::takeN l n
 | [],_+1=> []
theorem tE {α:Type}: ∀ (l:List α) (n:Nat),takeN l n=l.take n
 | _,0=>by simp[takeN]
 | _::l,n+1=>by simp[takeN,tE l n]
 | [],_+1=>by simp[takeN]
def rE {α:Type}:List α→Nat→List α
 | l,0=>l
 | _::l,n+1=>rE l n
 | [],_+1=> []
theorem tF {α:Type}: ∀ (l:List α) (n:Nat),rE l n=l.drop n
 | _,0=>by simp[rE]
 | _::l,n+1=>by simp[rE,tF l n]
 | [],_+1=>by simp[rE]
def kq (v:V) (sz:Nat):Bool:=match v with
 | .agg cs=>gq cs sz
 | v=>V.aV v &&Nat.beq sz 1
theorem jB {v:V} {sz:Nat} (h:kq v sz=true):aZ v sz=true:=by
 unfold kq at h
 split at h
 · simp[aZ,V.cells,V.dX,V.isAgg,lu h]
 · rename_i hn
   simp only[Bool.and_eq_true] at h
   have h1:sz=1:=Nat.eq_of_beq_eq_true h.2
   have h2:v.cells=[v]:=by cases v<;>simp_all[V.cells]
   simp[aZ,V.dX,h2,h1,h.1]
def yo (agg:Bool) (off sz:Nat) (e:V):Option V:=
 match agg with
 | true=>match e with
   | .agg cs=>bif Nat.beq off 0 &&gq cs sz then some e else bif iL cs (off+sz) then some (.agg (takeN (rE cs off) sz)) else none
   | _=>none
 | false=>match e with
   | .agg cs=>nth cs off
   | v=>bif V.aV v &&Nat.beq off 0 then some v else none
theorem lA {agg:Bool} {off sz:Nat} {e v:V} (h:yo agg off sz e=some v):AM.part agg off sz e=some v:=by
 cases agg with
 | true=>
   simp only[yo] at h
   cases e with
   | agg cs=>
     simp only at h
     cases hb: (Nat.beq off 0 &&gq cs sz) with
     | true=>
       simp only[hb,cond_true,Option.some.injEq] at h
       subst h
       simp only[Bool.and_eq_true] at hb
       have h1:off=0:=Nat.eq_of_beq_eq_true hb.1
       have h2:=lu hb.2
       simp[AM.part,h1,←h2]
     | false=>
       simp only[hb,cond_false] at h
       cases hc:iL cs (off+sz) with
       | true=>
         simp only[hc,cond_true,Option.some.injEq] at h
         subst h
         simp[AM.part,tE,tF,mW hc]
       | false=>simp[hc] at h
   | _=>simp at h
 | false=>
   simp only[yo] at h
   cases e with
   | agg cs=>simp only[Fy] at h;simpa [AM.part] using h
   | _=>
     simp only[V.aV,Bool.true_and,Bool.false_and,cond_false] at h
     first
     | (simp at h;done)
     | (cases hb:Nat.beq off 0 with
        | true=>simp only[hb,cond_true] at h;have h1:=Nat.eq_of_beq_eq_true hb;simp[AM.part,h1,V.aV];simpa using h
        | false=>simp[hb] at h)
def j5 (agg:Bool) (off sz:Nat) (e v:V):Option V:=
 match agg with
 | true=>match e,v with
   | .agg cs,.agg vs=>bif gq vs sz then(bif Nat.beq off 0 &&gq cs sz then some v else bif iL cs (off+sz) then some (.agg (takeN cs off++(vs++rE cs (off+sz)))) else none) else none
   | _,_=>none
 | false=>bif V.aV v &&Nat.beq sz 1 then match e with
    | .agg cs=>bif iL cs (off+1) then some (.agg (BV cs off v)) else none
    | e=>bif V.aV e &&Nat.beq off 0 then some v else none
   else none
theorem wx {agg:Bool} {off sz:Nat} {e v x:V} (h:j5 agg off sz e v=some x):dY agg off sz e v=some x:=by
 cases agg with
 | true=>
   simp only[j5] at h
   split at h
   · rename_i cs vs
     cases h1:gq vs sz with
     | false=>simp[h1] at h
     | true=>
       have Dp:=lu h1
       simp only[h1,cond_true] at h
       cases hb: (Nat.beq off 0 &&gq cs sz) with
       | true=>
         simp only[hb,cond_true,Option.some.injEq] at h
         subst h
         simp only[Bool.and_eq_true] at hb
         have h3:off=0:=Nat.eq_of_beq_eq_true hb.1
         have h2:=lu hb.2
         subst h3
         simp[dY,Dp,h2]
       | false=>
         simp only[hb,cond_false] at h
         cases hc:iL cs (off+sz) with
         | true=>
           simp only[hc,cond_true,Option.some.injEq] at h
           subst h
           simp[dY,tE,tF,mW hc,Dp]
         | false=>simp[hc] at h
   · simp at h
 | false=>
   simp only[j5] at h
   cases hb: (V.aV v &&Nat.beq sz 1) with
   | false=>simp[hb] at h
   | true=>
     simp only[hb,cond_true] at h
     simp only[Bool.and_eq_true] at hb
     have h1:sz=1:=Nat.eq_of_beq_eq_true hb.2
     split at h
     · rename_i cs
       cases hc:iL cs (off+1) with
       | false=>simp[hc] at h
       | true=>
         simp only[hc,cond_true,Option.some.injEq] at h
         subst h
         have:=mW hc
         simp[dY,hb.1,h1,xI];omega
     · rename_i hn
       cases hc: (V.aV e &&Nat.beq off 0) with
       | false=>simp[hc] at h
       | true=>
         simp only[hc,cond_true,Option.some.injEq] at h
         subst h
         simp only[Bool.and_eq_true] at hc
         have h3:off=0:=Nat.eq_of_beq_eq_true hc.2
         cases e<;>simp_all[dY,V.aV]
def j6:Option V→bR
 | some v=> .done v
 | none=> .fail
def rF (agg:Bool) (off sz:Nat) (e:V):bR:=
 match agg with
 | true=>match e with
   | .agg cs=>bif Nat.beq off 0 &&gq cs sz then .done e else bif iL cs (off+sz) then force (takeN (rE cs off) sz) fun l=> .done (.agg l) else .fail
   | _=> .fail
 | false=>match e with
   | .agg cs=>j6 (nth cs off)
   | v=>bif V.aV v &&Nat.beq off 0 then .done v else .fail
theorem pk {agg:Bool} {off sz:Nat} {e:V}:rF agg off sz e=j6 (yo agg off sz e):=by
 unfold rF yo
 cases agg with
 | true=>
   cases e with
   | agg cs=>
     simp only
     cases hb: (Nat.beq off 0 &&gq cs sz) with
     | true=>rfl
     | false=>
       simp only[cond_false]
       cases hc:iL cs (off+sz) with
       | true=>simp only[cond_true,force_eq];rfl
       | false=>rfl
   | _=>rfl
 | false=>
   cases e with
   | agg cs=>rfl
   | _=>simp only;cases hb:Nat.beq off 0 <;>simp[V.aV,j6]
def Kz (agg:Bool) (off sz:Nat) (e v:V) (k:V→bR):bR:=
 match agg with
 | true=>match e,v with
   | .agg cs,.agg vs=>bif gq vs sz then(bif Nat.beq off 0 &&gq cs sz then k v else bif iL cs (off+sz) then force (takeN cs off++(vs++rE cs (off+sz))) fun l=>k (.agg l) else .fail) else .fail
   | _,_=> .fail
 | false=>bif V.aV v &&Nat.beq sz 1 then match e with
    | .agg cs=>bif iL cs (off+1) then force (BV cs off v) fun l=>k (.agg l) else .fail
    | e=>bif V.aV e &&Nat.beq off 0 then k v else .fail
   else .fail
theorem NT {agg:Bool} {off sz:Nat} {e v:V} {k:V→bR}:Kz agg off sz e v k=match j5 agg off sz e v with
   | some x=>k x
   | none=> .fail:=by
 unfold Kz j5
 cases agg with
 | true=>
   simp only
   split
   · rename_i cs vs
     cases gq vs sz with
     | false=>rfl
     | true=>
       simp only[cond_true]
       cases (Nat.beq off 0 &&gq cs sz) with
       | true=>rfl
       | false=>
         simp only[cond_false]
         cases iL cs (off+sz) with
         | true=>simp only[cond_true,force_eq]
         | false=>rfl
   · rfl
 | false=>
   simp only
   cases (V.aV v &&Nat.beq sz 1) with
   | false=>rfl
   | true=>
     simp only[cond_true]
     split
     · rename_i cs
       cases iL cs (off+1) with
       | true=>simp only[cond_true,force_eq]
       | false=>rfl
     · cases (V.aV e &&Nat.beq off 0) <;>rfl
def fF (x:bg) (k:V→bR):bR:=match x with
 | .tmp t=> .oR t k
 | .const v=>k v
theorem Ref.ev {x:bg} {k:V→bR} {k0:V→Act} (h: ∀v,Ref (k v) (k0 v)):Ref (fF x k) (AM.ev x k0):=by
 cases x with
 | tmp t=>exact⟨k0,rfl,h⟩
 | const v=>exact h v
def Dr:List bg→(List V→bR)→bR
 | [],k=>k []
 | x::xs,k=>fF x fun v=>Dr xs fun vs=>k (v::vs)
theorem Ref.ym: ∀ {xs:List bg} {k:List V→bR} {k0:List V→Act},(∀v,Ref (k v) (k0 v))→Ref (Dr xs k) (AM.ym xs k0)
 | [],_,_,h=>h []
 | x::xs,_,_,h=>Ref.ev fun v=>Ref.ym fun vs=>h (v::vs)
def IE:Option bg→(Option V→bR)→bR
 | none,k=>k none
 | some x,k=>fF x fun v=>k (some v)
theorem Ref.Aa {x:Option bg} {k:Option V→bR} {k0:Option V→Act} (h: ∀v,Ref (k v) (k0 v)):Ref (IE x k) (AM.Aa x k0):=by
 cases x with
 | none=>exact h none
 | some x=>exact Ref.ev fun v=>h (some v)
theorem Ref.dF {o o0:Option V} (h: ∀v,o=some v→o0=some v):Ref (j6 o) (AM.dF o0):=by
 cases o with
 | none=>trivial
 | some v=>rw[h v rfl];exact rfl
theorem Ref.gh {o:Option V}:Ref (j6 o) (AM.dF o):=Ref.dF fun _ h=>h
theorem Ref.fail {a:Act}:Ref .fail a:=trivial
theorem Ref.done {v:V}:Ref (.done v) (.done v):=rfl
def yp (c:V) (k:V→bR):bR:=
 match c with
 | .sl r g off len=> .cr r fun ⟨cV,gY,dZ,iX,jm⟩=>match jm with
   | some es=> .ex (List V) (fun ys=>bb es off len=ys) fun ys=> .cq (cV=g∧dZ=true∧off+len≤es.length∧V.ae ys=true) (.bW r ⟨cV,gY,dZ,true,jm⟩ (k (.lit gY ys)))
   | none=> .fail
 | .mp r g=> .cr r fun ⟨cV,gY,dZ,iX,jm⟩=>match jm with
   | some es=> .ex (List V) (fun ys=>es=ys) fun ys=> .cq (cV=g∧gY=0∧V.ae ys=true∧ys.all V.isTuple=true) (.bW r ⟨cV,gY,dZ,true,jm⟩ (k (.mlit ys)))
   | none=> .fail
 | .own .. | .msl .. | .mptr .. | .any| .it .. => .fail
 | c=>k c
theorem Ref.cZ {c:V} {k:V→bR} {k0:V→Act} (h: ∀v,Ref (k v) (k0 v)):Ref (yp c k) (AM.cZ c k0):=by
 cases c
 case sl r g off len=>
  refine⟨_,rfl,fun ⟨gen,sz,arr,fz,es⟩=> ?_⟩
  cases es with
  | none=>trivial
  | some es=>
    rintro ys rfl hc
    simp only[hc,and_self,if_true]
    refine⟨_,by simp[hc],h _⟩
 case mp r g=>
  refine⟨_,rfl,fun ⟨gen,sz,arr,fz,es⟩=> ?_⟩
  cases es with
  | none=>trivial
  | some es=>
    rintro ys rfl hc
    simp only[hc,and_self,if_true]
    refine⟨_,by simp[hc],h _⟩
 all_goals first| exact h _| trivial
def vo:List V→(List V→bR)→bR
 | [],k=>k []
 | c::cs,k=>yp c fun c'=>vo cs fun dC=>k (c'::dC)
theorem Ref.fw: ∀ {cs:List V} {k:List V→bR} {k0:List V→Act},(∀v,Ref (k v) (k0 v))→Ref (vo cs k) (AM.fw cs k0)
 | [],_,_,h=>h []
 | _::_,_,_,h=>Ref.cZ fun v=>Ref.fw fun vs=>h (v::vs)
def vq (v:V) (k:V→bR):bR:=
 bif V.aj v then k v else
 match v with
 | .agg cs=>vo cs fun dC=>k (.agg dC)
 | v=>yp v k
theorem Ref.xn {v:V} {k:V→bR} {k0:V→Act} (h: ∀v,Ref (k v) (k0 v)):Ref (vq v k) (AM.xn v k0):=by
 unfold vq AM.xn
 cases hp:V.aj v with
 | true=>simpa using h v
 | false=>
   simp only[cond_false,Bool.false_eq_true,if_false]
   cases v
   case agg cs=>exact Ref.fw fun dC=>h _
   all_goals exact Ref.cZ h
def KA (vs:List V) (k:List V→bR):bR:=
 .alt (.cq (V.ae vs=true) (k vs)) (match vs with
  | [v]=>vq v fun v'=>k [v']
  | _=> .fail)
theorem Ref.kJ {vs:List V} {k:List V→bR} {k0:List V→Act} (h: ∀v,Ref (k v) (k0 v)):Ref (KA vs k) (AM.kJ vs k0):=by
 unfold KA
 refine⟨?_,?_⟩
 · intro hp
   simp only[AM.kJ,hp,if_true]
   exact h _
 · split
   · rename_i v
     unfold AM.kJ
     by_cases hp:V.ae [v]=true
     · rw[if_pos hp]
       have h1:V.aj v=true:=by simpa [V.ae] using hp
       unfold vq
       simp only[h1,cond_true];exact h _
     · rw[if_neg hp]
       simp only[AM.kJ.go]
       exact Ref.xn fun v'=>h _
   · trivial
end Go.AM
namespace Go.AM
def BW (f:V→(V→List Nat→bR)→bR):List V→(List V→List Nat→bR)→bR
 | [],k=>k [] []
 | c::cs,k=>f c fun c' r=>BW f cs fun dC rs=>k (c'::dC) (r++rs)
theorem Ref.rG {f:V→(V→List Nat→bR)→bR} {f0:V→(V→List Nat→Act)→Act} (hf: ∀c k k0,(∀v rs,Ref (k v rs) (k0 v rs))→Ref (f c k) (f0 c k0)):
  ∀ {cs:List V} {k:List V→List Nat→bR} {k0:List V→List Nat→Act},(∀v rs,Ref (k v rs) (k0 v rs))→Ref (BW f cs k) (AM.rG f0 cs k0)
 | [],_,_,h=>h _ _
 | _::_,_,_,h=>hf _ _ _ fun v rs=>Ref.rG hf fun vs rs'=>h _ _
def gQ:Nat→V→(V→List Nat→bR)→bR
 | 0,v,k=> .cq (V.aj v=true) (k v [])
 | d+1,v,k=>bif V.aj v then k v [] else
   match v with
   | .agg cs=>BW (gQ d) cs fun dC rs=>k (.agg dC) rs
   | .fn f cs=>BW (gQ d) cs fun dC rs=>k (.fn f dC) rs
   | .iface t x=>gQ d x fun x' rs=>k (.iface t x') rs
   | .sl r g off len=> .cr r fun ⟨cV,gY,dZ,iX,jm⟩=>match jm with
     | some es=> .ex (List V) (fun ys=>bb es off len=ys) fun ys=> .cq (cV=g∧dZ=true∧off+len≤es.length∧V.ae ys=true) (k (.lit gY ys) [r])
     | none=> .fail
   | .ptr r g idx off=> .cr r fun ⟨cV,gY,dZ,iX,jm⟩=>match jm with
     | some es=> .cq (cV=g) (match es with
       | [e]=> (match idx with| 0=>gQ d e fun e' rs=>k (.eptr e' off) (r::rs) | _+1=> .fail)
       | es=> .ex V (fun e=>es[idx]? =some e) fun e=>gQ d e fun e' rs=>k (.eptr e' off) (r::rs))
     | none=> .fail
   | _=> .fail
theorem Ref.gC: ∀ {d:Nat} {v:V} {k:V→List Nat→bR} {k0:V→List Nat→Act},(∀v rs,Ref (k v rs) (k0 v rs))→Ref (gQ d v k) (AM.gC d v k0)
 | 0,v,k,k0,h=>by
   intro hp
   simp only[AM.gC,hp,if_true]
   exact h _ _
 | d+1,v,k,k0,h=>by
   unfold gQ AM.gC
   cases hp:V.aj v with
   | true=>simpa using h v []
   | false=>
     simp only[cond_false,Bool.false_eq_true,if_false]
     cases v
     case agg cs=>exact Ref.rG (f:=gQ d) (f0:=AM.gC d) (fun c k k0 h=>Ref.gC h) fun dC rs=>h _ _
     case fn f cs=>exact Ref.rG (f:=gQ d) (f0:=AM.gC d) (fun c k k0 h=>Ref.gC h) fun dC rs=>h _ _
     case iface t x=>exact Ref.gC fun x' rs=>h _ _
     case sl r g off len=>
      refine⟨_,rfl,fun ⟨gen,sz,arr,fz,es⟩=> ?_⟩
      cases es with
      | none=>trivial
      | some es=>
        rintro ys rfl hc
        try simp only at hc
        simp only[hc,and_self,if_true,xJ]
        exact h _ _
     case ptr r g idx off=>
      refine⟨_,rfl,fun ⟨gen,sz,arr,fz,es⟩=> ?_⟩
      cases es with
      | none=>trivial
      | some es=>
        intro hc
        try simp only at hc
        simp only[hc,if_true]
        split
        ·  rename_i e
           cases idx with
           | zero=>exact Ref.gC fun e' rs=>h _ _
           | succ n=>trivial
        ·  intro e he
           simp only[he]
           exact Ref.gC fun e' rs=>h _ _
     all_goals trivial
def fW (   r0:Nat):List V→List (Option Nat)→Nat→(List V→List Nat→List fk→bR)→bR
 | [],_,_,k=>k [] [] []
 | v::vs,m::ms,i,k=>
   match m with
   | some sz=>match v with
     | .nils=> .cq (0 <sz) (fW r0 vs ms (i+1) fun as rs ws=>k (.msl sz [] 0 0::as) rs (⟨i,r0+i,some sz⟩::ws))
     | .sl r g off len=> .cr r fun ⟨cV,gY,dZ,iX,jm⟩=>match jm with
       | some es=> .cq (cV=g∧iX=false∧gY=sz∧off+len≤es.length∧V.ae es=true)
          (fW r0 vs ms (i+1) fun as rs ws=>k (.msl sz es off len::as) rs (⟨i,r,none⟩::ws))
       | none=> .fail
     | .ptr r g idx off=> .cr r fun ⟨cV,gY,dZ,iX,jm⟩=>match jm with
       | some es=> .cq (cV=g∧iX=false∧gY=sz∧V.ae es=true)
          (fW r0 vs ms (i+1) fun as rs ws=>k (.mptr sz es idx off::as) rs (⟨i,r,none⟩::ws))
       | none=> .fail
     | _=> .fail
   | none=>gQ 5 v fun v' rs=>fW r0 vs ms (i+1) fun as rs' ws=>k (v'::as) (rs++rs') ws
 | v::vs,[],i,k=>gQ 5 v fun v' rs=>fW r0 vs [] (i+1) fun as rs' ws=>k (v'::as) (rs++rs') ws
theorem Ref.eA {r0:Nat}: ∀ {vs:List V} {ms:List (Option Nat)} {i:Nat} {k:List V→List Nat→List fk→bR} {k0:List V→List Nat→List fk→Act},
   (∀a b c,Ref (k a b c) (k0 a b c))→Ref (fW r0 vs ms i k) (AM.eA r0 vs ms i k0)
 | [],_,_,_,_,h=>h _ _ _
 | v::vs,[],i,k,k0,h=>Ref.gC fun v' rs=>Ref.eA fun a b c=>h _ _ _
 | v::vs,none::ms,i,k,k0,h=>Ref.gC fun v' rs=>Ref.eA fun a b c=>h _ _ _
 | v::vs,some sz::ms,i,k,k0,h=>by
   unfold fW AM.eA
   cases v
   case nils=>
    intro hc
    simp only[hc,if_true]
    exact Ref.eA fun a b c=>h _ _ _
   case sl r g off len=>
    refine⟨_,rfl,fun ⟨gen,sz,arr,fz,es⟩=> ?_⟩
    cases es with
    | none=>trivial
    | some es=>
      intro hc
      try simp only at hc
      simp only[hc,and_self,if_true]
      exact Ref.eA fun a b c=>h _ _ _
   case ptr r g idx off=>
    refine⟨_,rfl,fun ⟨gen,sz,arr,fz,es⟩=> ?_⟩
    cases es with
    | none=>trivial
    | some es=>
      intro hc
      try simp only at hc
      simp only[hc,and_self,if_true]
      exact Ref.eA fun a b c=>h _ _ _
   all_goals trivial
def nN:List Nat→bR→bR
 | [],k=>k
 | r::rs,k=> .cr r fun ⟨cV,gY,dZ,iX,jm⟩=> .bW r ⟨cV,gY,dZ,true,jm⟩ (nN rs k)
theorem Ref.dg: ∀ {rs:List Nat} {k:bR} {k0:Act},Ref k k0→Ref (nN rs k) (AM.dg rs k0)
 | [],_,_,h=>h
 | _::_,_,_,h=> ⟨_,rfl,fun ⟨_,_,_,_,_⟩=> ⟨_,rfl,Ref.dg h⟩⟩
def cM:List fk→List (Nat×List V)→(List (Nat×Nat×Nat)→bR)→bR
 | [],[],k=>k []
 | ⟨i,r,fresh⟩::ws,(IF,es)::outs,k=> .cr r fun ⟨cV,gY,dZ,iX,jm⟩=>match fresh with
   | none=> .bW r ⟨cV+IF,gY,dZ,iX,some es⟩ (cM ws outs fun gs=>k ((i,r,cV+IF)::gs))
   | some sz=> .bW r {gen:=cV+1,sz,arr:=true,fz:=false,es:=some es} (cM ws outs fun gs=>k ((i,r,cV+1)::gs))
 | _,_,_=> .fail
theorem Ref.dB: ∀ {ws:List fk} {outs:List (Nat×List V)} {k:List (Nat×Nat×Nat)→bR} {k0:List (Nat×Nat×Nat)→Act},(∀g,Ref (k g) (k0 g))→Ref (cM ws outs k) (AM.dB ws outs k0)
 | [],[],_,_,h=>h _
 | [],_::_,_,_,_=>trivial
 | _::_,[],_,_,_=>trivial
 | ⟨i,r,fresh⟩::ws,(IF,es)::outs,k,k0,h=>by
   refine⟨_,rfl,fun ⟨gen,sz,arr,fz,es'⟩=> ?_⟩
   cases fresh with
   | none=>exact⟨_,rfl,Ref.dB fun g=>h _⟩
   | some sz=>exact⟨_,rfl,Ref.dB fun g=>h _⟩
theorem Ref.bif {b:Bool} {x:bR} {a:Act} (h:Ref x a):Ref (bif b then x else .fail) (if b=true then a else .fail):=by
 cases b with
 | true=>simpa using h
 | false=>trivial
def mi (b6:Bool) (r:Nat) (gs:List (Nat×Nat×Nat)) (c:V) (k:V→bR):bR:=
 match c with
 | .own sz xs=> (match b6 with
   | true=> .mV r fun g=> .bW r {gen:=g,sz,arr:=true,fz:=false,es:=some xs} (k (.sl r g 0 xs.length))
   | false=>k (.lit sz xs))
 | .sl i _ off len=>match gJ i gs with
   | some (r',g')=>k (.sl r' g' off len)
   | none=> .fail
 | c=>bif V.aj c then k c else .fail
theorem Ref.cG {b6:Bool} {r:Nat} {gs:List (Nat×Nat×Nat)} {c:V} {k:V→bR} {k0:V→Act} (h: ∀v,Ref (k v) (k0 v)):Ref (mi b6 r gs c k) (AM.cG b6 r gs c k0):=by
 unfold mi AM.cG
 cases c
 case own sz xs=>
  cases b6 with
  | true=>exact⟨_,rfl,fun o=> ⟨_,rfl,h _⟩⟩
  | false=>exact h _
 case sl i g off len=>
  simp only
  cases gJ i gs with
  | none=>trivial
  | some p=>exact h _
 all_goals exact Ref.bif (h _)
def nO (b6:Bool):Nat→List (Nat×Nat×Nat)→List V→(List V→bR)→bR
 | _,_,[],k=>k []
 | r,gs,c::cs,k=>mi b6 r gs c fun c'=>nO b6 (r+1) gs cs fun dC=>k (c'::dC)
theorem Ref.dp {b6:Bool}: ∀ {cs:List V} {r:Nat} {gs:List (Nat×Nat×Nat)} {k:List V→bR} {k0:List V→Act},(∀v,Ref (k v) (k0 v))→Ref (nO b6 r gs cs k) (AM.dp b6 r gs cs k0)
 | [],_,_,_,_,h=>h _
 | _::_,_,_,_,_,h=>Ref.cG fun c'=>Ref.dp fun dC=>h _
def tG (b6:Bool) (r:Nat) (gs:List (Nat×Nat×Nat)) (v:V) (k:V→bR):bR:=
 bif V.aj v then k v else
 match v with
 | .agg cs=>nO b6 r gs cs fun dC=>k (.agg dC)
 | v=>mi b6 r gs v k
theorem Ref.fL {b6:Bool} {r:Nat} {gs:List (Nat×Nat×Nat)} {v:V} {k:V→bR} {k0:V→Act} (h: ∀v,Ref (k v) (k0 v)):Ref (tG b6 r gs v k) (AM.fL b6 r gs v k0):=by
 unfold tG AM.fL
 cases hp:V.aj v with
 | true=>simpa using h v
 | false=>
   simp only[cond_false,Bool.false_eq_true,if_false]
   cases v
   case agg cs=>exact Ref.dp fun dC=>h _
   all_goals exact Ref.cG h
def vr (b6:Bool):Nat→List (Nat×Nat×Nat)→List V→(List V→bR)→bR
 | _,_,[],k=>k []
 | r,gs,v::vs,k=>tG b6 r gs v fun v'=>vr b6 (r+8) gs vs fun vs'=>k (v'::vs')
theorem Ref.eW {b6:Bool}: ∀ {vs:List V} {r:Nat} {gs:List (Nat×Nat×Nat)} {k:List V→bR} {k0:List V→Act},(∀v,Ref (k v) (k0 v))→Ref (vr b6 r gs vs k) (AM.eW b6 r gs vs k0)
 | [],_,_,_,_,h=>h _
 | _::_,_,_,_,_,h=>Ref.fL fun c'=>Ref.eW fun dC=>h _
def bC (b6:Bool) (r:Nat) (gs:List (Nat×Nat×Nat)) (v:V) (k:V→bR):bR:=
 bif V.aj v then k v else
 match v with
 | .tuple vs=>vr b6 r gs vs fun vs'=>k (.tuple vs')
 | v=>tG b6 r gs v k
theorem Ref.df {b6:Bool} {r:Nat} {gs:List (Nat×Nat×Nat)} {v:V} {k:V→bR} {k0:V→Act} (h: ∀v,Ref (k v) (k0 v)):Ref (bC b6 r gs v k) (AM.df b6 r gs v k0):=by
 unfold bC AM.df
 cases hp:V.aj v with
 | true=>simpa using h v
 | false=>
   simp only[cond_false,Bool.false_eq_true,if_false]
   cases v
   case tuple cs=>exact Ref.eW fun dC=>h _
   all_goals exact Ref.fL h
def aD (E:Env) (f:Nat):List (Option Nat):=match E.fn f with
 | some af=>af.yq
 | none=> []
def mj (E:Env) (r:Nat) (b6:Bool) (f:Nat) (args:List V):bR:=
 fW ( r+8) args (aD E f) 0 fun as rs ws=>
  .cq ((apart rs (ws.map (·.r)) &&distinct (ws.map (·.r)))=true) <| .call f as fun ⟨val,outs⟩=>
   match rs with
   | []=>cM ws outs fun gs=>bC b6 r gs val .done
   | rs=>bif V.isScalar val &&outs.all (fun o=>V.bS o.2) then cM ws outs fun gs=>bC b6 r gs val .done
     else nN rs (cM ws outs fun gs=>bC b6 r gs val .done)
theorem Ref.pq {E:Env} {r:Nat} {b6:Bool} {f:Nat} {args:List V}:Ref (mj E r b6 f args) (AM.pq E r b6 f args):=by
 unfold mj AM.pq
 refine Ref.eA fun as rs ws=> ?_
 intro hc
 simp only[hc,if_true]
 refine⟨_,rfl,fun ⟨val,outs⟩=> ?_⟩
 have hgo:Ref (cM ws outs fun gs=>bC b6 r gs val .done) (AM.dB ws outs fun gs=>AM.df b6 r gs val .done):=
   Ref.dB fun gs=>Ref.df fun v=>rfl
 cases rs with
 | nil=>
   simp only[dg]
   split<;>exact hgo
 | cons a rs=>
   simp only
   cases hb: (V.isScalar val &&outs.all fun o=>V.bS o.2) with
   | true=>simp only[cond_true,if_true];exact hgo
   | false=>simp only[cond_false,Bool.false_eq_true,if_false];exact Ref.dg hgo
end Go.AM
namespace Go.AM
def vt (d:Nat) (o:Option V) (k:Nat→bR):bR:=match o with
 | none=>k d
 | some (.int _ n)=> .cq (0≤n) (k n.toNat)
 | some _=> .fail
theorem Ref.KB {d:Nat} {o:Option V} {k:Nat→bR} {a:Act} (h: ∀n,cf d o=some n→Ref (k n) a):Ref (vt d o k) a:=by
 unfold vt
 split
 · exact h _ rfl
 · rename_i K n
   intro h0
   exact h _ (by simp[cf,h0])
 · trivial
def yr:List (Nat×Nat×bg)→(List (Nat×Nat×V)→bR)→bR
 | [],k=>k []
 | (off,sz,x)::ps,k=>fF x fun v=>yr ps fun vs=>k ((off,sz,v)::vs)
theorem Ref.gp: ∀ {ps:List (Nat×Nat×bg)} {k:List (Nat×Nat×V)→bR} {k0:List (Nat×Nat×V)→Act},(∀v,Ref (k v) (k0 v))→Ref (yr ps k) (AM.gp ps k0)
 | [],_,_,h=>h _
 | (_,_,_)::_,_,_,h=>Ref.ev fun v=>Ref.gp fun vs=>h _
def lB:List V→List (Nat×Nat×V)→Option (List V)
 | cs,[]=>some cs
 | cs,(off,sz,v)::rest=>bif kq v sz &&iL cs (off+sz) then lB (match v with
    | .agg vs=>takeN cs off++(vs++rE cs (off+sz))
    | v=>BV cs off v) rest else none
theorem rH: ∀ {ps:List (Nat×Nat×V)} {cs out:List V},lB cs ps=some out→eG cs ps=some out
 | [],cs,out,h=>h
 | (off,sz,v)::rest,cs,out,h=>by
   simp only[lB] at h
   cases hb: (kq v sz &&iL cs (off+sz)) with
   | false=>simp[hb] at h
   | true=>
     simp only[hb,cond_true] at h
     simp only[Bool.and_eq_true] at hb
     have h1:=jB hb.1
     have h2:=mW hb.2
     simp only[aZ,Bool.and_eq_true,beq_iff_eq] at h1
     simp only[eG]
     rw[if_pos ⟨h1.1,h2,h1.2⟩]
     have ih:=rH h
     rw[←ih]
     congr 1
     split
     · rename_i vs
       simp[V.cells,tE,tF]
     · rename_i hn
       have h3:v.cells=[v]:=by cases v<;>simp_all[V.cells]
       have h4:sz=1:=by rw[h3] at h1;simpa using h1.1.symm
       subst h4
       rw[xI,h3]
       simp[List.set_eq_take_append_cons_drop,show off<cs.length by omega]
def tH:List (Nat×bg)→(List (Nat×V)→bR)→bR
 | [],k=>k []
 | (i,x)::ps,k=>fF x fun v=>vq v fun v=>tH ps fun vs=>k ((i,v)::vs)
theorem Ref.fu: ∀ {ps:List (Nat×bg)} {k:List (Nat×V)→bR} {k0:List (Nat×V)→Act},(∀v,Ref (k v) (k0 v))→Ref (tH ps k) (AM.fu ps k0)
 | [],_,_,h=>h _
 | (_,_)::_,_,_,h=>Ref.ev fun v=>Ref.xn fun v'=>Ref.fu fun vs=>h _
def qE (sz:Nat):Nat→List (Nat×V)→Option (List V)
 | _,[]=>some []
 | i,(j,v)::rest=>bif Nat.beq i j &&kq v sz then(match qE sz (i+1) rest with| some vs=>some (v::vs) | none=>none) else none
def iG (sz:Nat):List V→List (Nat×V)→Option (List V)
 | es,[]=>some es
 | es,(i,v)::rest=>bif iL es (i+1) &&kq v sz then iG sz (BV es i v) rest else none
theorem mG {sz:Nat}: ∀ {ps:List (Nat×V)} {es out:List V},iG sz es ps=some out→cX sz es ps=some out
 | [],cs,out,h=>h
 | (i,v)::rest,es,out,h=>by
   simp only[iG] at h
   cases hb: (iL es (i+1) &&kq v sz) with
   | false=>simp[hb] at h
   | true=>
     simp only[hb,cond_true] at h
     simp only[Bool.and_eq_true] at hb
     have h1:=jB hb.2
     have h2:=mW hb.1
     simp only[cX]
     rw[if_pos ⟨by omega,h1⟩,←xI]
     exact mG h
theorem si {sz:Nat}: ∀ {ps:List (Nat×V)} {i:Nat} {vs pre es:List V},qE sz i ps=some vs→pre.length=i→es.length=ps.length→cX sz (pre++es) ps=some (pre++vs)
 | [],i,vs,pre,es,h,hp,he=>by
   simp only[qE,Option.some.injEq] at h
   subst h
   have:es=[]:=by simpa using he
   simp[cX,this]
 | (j,v)::rest,i,vs,pre,es,h,hp,he=>by
   simp only[qE] at h
   cases hb: (Nat.beq i j &&kq v sz) with
   | false=>simp[hb] at h
   | true=>
     simp only[hb,cond_true] at h
     simp only[Bool.and_eq_true] at hb
     have h1:=jB hb.2
     have h2:i=j:=Nat.eq_of_beq_eq_true hb.1
     subst h2
     split at h
     · rename_i vs' hv
       simp only[Option.some.injEq] at h
       subst h
       cases es with
       | nil=>simp at he
       | cons e es=>
         simp only[cX]
         rw[if_pos ⟨by simp;omega,h1⟩]
         have: (pre++e::es).set i v=(pre++[v])++es:=by
          simp[List.set_append,hp]
         rw[this,si hv (by simp[hp]) (by simpa using he)]
         simp
     · simp at h
def j7 (sz:Nat) (x:V) (k:List V→bR):bR:=
 match x with
 | .nils=>k []
 | .lit sz' xs=>bif Nat.beq sz' sz then k xs else .fail
 | .sl r g off len=> .cr r fun ⟨cV,gY,dZ,iX,jm⟩=>match jm with
   | some es=> .ex (List V) (fun ys=>bb es off len=ys) fun ys=> .cq (cV=g∧gY=sz∧off+len≤es.length) (k ys)
   | none=> .fail
 | .str s=>bif Nat.beq sz 1 then k (s.map fun b=> .int .u8 b.toNat) else .fail
 | _=> .fail
theorem Ref.content {sz:Nat} {x:V} {k:List V→bR} {k0:List V→Act} (h: ∀v,Ref (k v) (k0 v)):Ref (j7 sz x k) (AM.content sz x k0):=by
 unfold j7 AM.content
 cases x
 case nils=>exact h _
 case lit sz' xs=>
  cases hb:Nat.beq sz' sz with
  | true=>obtain rfl:=Nat.eq_of_beq_eq_true hb;simp only[if_true,hb,cond_true];exact h _
  | false=>simp only[hb,cond_false];trivial
 case str s=>
  cases hb:Nat.beq sz 1 with
  | true=>obtain rfl:=Nat.eq_of_beq_eq_true hb;simp only[if_true,hb,cond_true];exact h _
  | false=>simp only[hb,cond_false];trivial
 case sl r g off len=>
  refine⟨_,rfl,fun ⟨gen,sz,arr,fz,es⟩=> ?_⟩
  cases es with
  | none=>trivial
  | some es=>
    rintro ys rfl hc
    try simp only at hc
    simp only[hc,and_self,if_true]
    exact h _
 all_goals trivial
def BX ( r sz dW:Nat) (s:V) (ys:List V):bR:=
 .cq (ys.all (aZ · sz)=true) <| bif Nat.ble 1 sz then
 match s with
 | .nils=>match ys with
   | [y]=> .cq (1≤dW) (.mV r fun g=> .bW r {gen:=g,sz,arr:=true,fz:=false,es:=some [y]} (.done (.sl r g 0 1)))
   | ys=> .ite ys.isEmpty (.done .nils) (.cq (ys.length≤dW) (.mV r fun g=> .bW r {gen:=g,sz,arr:=true,fz:=false,es:=some ys} (.done (.sl r g 0 ys.length))))
 | .lit sz' xs=> .cq (ys=[]) (.done (.lit sz' xs))
 | .sl r' g off len=> .cr r' fun ⟨cV,gY,dZ,iX,jm⟩=>match jm with
   | some es=> .cq (cV=g∧dZ=true∧iX=false∧gY=sz) <| .alt
      (.cq (off=0∧es.length=len∧len+ys.length≤dW) (.all fun g'=> .bW r' {gen:=g',sz,arr:=true,fz:=false,es:=some (es++ys)} (.done (.sl r' g' 0 (len+ys.length)))))
      (.cq (off+len≤es.length∧len+ys.length≤dW) (.ite (decide (off+len+ys.length≤es.length))
        (.bW r' ⟨cV,gY,dZ,iX,some (overwrite es (off+len) ys)⟩ (.done (.sl r' g off (len+ys.length))))
        (.bW r' ⟨g+1,gY,dZ,iX,some (bb es off len++ys)⟩ (.done (.sl r' (g+1) 0 (len+ys.length))))))
   | none=> .fail
 | _=> .fail
 else .fail
theorem Ref.append {r sz dW:Nat} {s:V} {ys:List V}:Ref (BX r sz dW s ys) (yl r sz dW s ys):=by
 intro hy
 cases hb:Nat.ble 1 sz with
 | false=>simp only[cond_false];trivial
 | true=>
   have hs:0 <sz:=Nat.le_of_ble_eq_true hb
   have hg: (ys.all (aZ · sz) &&decide (0 <sz))=true:=by simp only[Bool.and_eq_true,decide_eq_true_eq];exact⟨hy,hs⟩
   simp only[cond_true,yl,hg,if_true]
   cases s
   case nils=>
    simp only
    split
    · rename_i y
      intro hl
      simp only[List.isEmpty_cons,Bool.false_eq_true,if_false,List.length_cons,List.length_nil,Nat.zero_add,hl,if_true]
      exact⟨_,rfl,fun o=> ⟨_,rfl,rfl⟩⟩
    · refine⟨fun he=> ?_,fun he=> ?_⟩
      · simp only[he,if_true];exact rfl
      ·  intro hl
         simp only[he,Bool.false_eq_true,if_false,hl,if_true]
         exact⟨_,rfl,fun o=> ⟨_,rfl,rfl⟩⟩
   case lit sz' xs=>
    intro he
    simp only[he,List.isEmpty_nil,if_true];exact rfl
   case sl r' g off len=>
    refine⟨_,rfl,fun ⟨gen,sz',arr,fz,es⟩=> ?_⟩
    cases es with
    | none=>trivial
    | some es=>
      intro hc
      obtain⟨rfl,rfl,rfl,rfl⟩:=hc
      refine⟨?_,?_⟩
      ·  rintro⟨rfl,rfl,hl⟩
         simp only[Nat.zero_add,Nat.le_refl,hl,and_self,if_true]
         by_cases hn:ys=[]
         · subst hn
           refine⟨gen,?_⟩
           simp only[List.append_nil,List.length_nil,Nat.add_zero,Nat.le_refl,if_true,overwrite,List.take_length,List.drop_length]
           exact⟨_,rfl,rfl⟩
         · have hp:0 <ys.length:=List.length_pos_iff.2 hn
           refine⟨gen+1,?_⟩
           rw[if_neg (by omega)]
           simp only[bb,List.drop_zero,List.take_length]
           exact⟨_,rfl,rfl⟩
      ·  rintro⟨h1,h2⟩
         simp only[h1,h2,and_self,if_true]
         refine⟨fun hd=> ?_,fun hd=> ?_⟩
         · simp only[decide_eq_true_eq] at hd
           rw[if_pos hd]
           exact⟨_,rfl,rfl⟩
         · simp only[decide_eq_false_iff_not] at hd
           rw[if_neg hd]
           exact⟨_,rfl,rfl⟩
   all_goals trivial
def Si (op:BinOp) (x y:V):bR:=
 match x,y with
 | .int k a,.int k' b=>
   match op with
   | .shl=> .cq (0≤b) (.done (.int k (k.wrap (a*2 ^ (min b.toNat k.bits)))))
   | .shr=> .cq (0≤b) (.done (.int k (a.fdiv (2 ^ (min b.toNat k.bits)))))
   | .quo=> .cq (k=k'∧b≠0) (.done (.int k (k.wrap (a.tdiv b))))
   | .rem=> .cq (k=k'∧b≠0) (.done (.int k (a.tmod b)))
   | .and=> .cq (k=k') (j6 (ml .and k a b))
   | .or=> .cq (k=k') (j6 (ml .or k a b))
   | .xor=> .cq (k=k') (j6 (ml .xor k a b))
   | .andNot=> .cq (k=k') (j6 (ml .andNot k a b))
   | .add=>bif decide (k=k') then .done (.int k (k.wrap (a+b))) else .fail
   | .sub=>bif decide (k=k') then .done (.int k (k.wrap (a - b))) else .fail
   | .mul=>bif decide (k=k') then .done (.int k (k.wrap (a*b))) else .fail
   | .eql=>bif decide (k=k') then .done (.bool (decide (a=b))) else .fail
   | .neq=>bif decide (k=k') then .done (.bool (!decide (a=b))) else .fail
   | .lss=>bif decide (k=k') then .done (.bool (decide (a<b))) else .fail
   | .leq=>bif decide (k=k') then .done (.bool (decide (a≤b))) else .fail
   | .gtr=>bif decide (k=k') then .done (.bool (decide (b<a))) else .fail
   | .geq=>bif decide (k=k') then .done (.bool (decide (b≤a))) else .fail
 | .str a,.str b=>
   match op with
   | .add=> .cq (a.length+b.length≤9223372036854775807) (.done (.str (a++b)))
   | .eql=> .done (.bool (decide (a=b)))
   | .neq=> .done (.bool (!decide (a=b)))
   | .lss=> .done (.bool (Op.bytesLess a b))
   | .leq=> .done (.bool (Op.bytesLess a b || decide (a=b)))
   | .gtr=> .done (.bool (!(Op.bytesLess a b || decide (a=b))))
   | .geq=> .done (.bool (!Op.bytesLess a b))
   | _=> .fail
 | _,_=> .fail
theorem Ref.Dt {b:Bool} {x:bR} {a:Act} (h:b=true→Ref x a):Ref (bif b then x else .fail) a:=by
 cases b with
 | true=>simpa using h rfl
 | false=>trivial
theorem Ref.bin {op:BinOp} {x y:V}:Ref (Si op x y) (AM.dF (cQ op x y)):=by
 unfold Si
 split
 · rename_i k a k' b
   split
   case h_1=>intro h;simp[cQ,show ¬b< 0 by omega,AM.dF,Ref]
   case h_2=>intro h;simp[cQ,show ¬b< 0 by omega,AM.dF,Ref]
   case h_3=>intro h;simp[cQ,h.1,h.2,AM.dF,Ref]
   case h_4=>intro h;simp[cQ,h.1,h.2,AM.dF,Ref]
   case h_5=>intro h;simp only[cQ,h,if_true];exact Ref.gh
   case h_6=>intro h;simp only[cQ,h,if_true];exact Ref.gh
   case h_7=>intro h;simp only[cQ,h,if_true];exact Ref.gh
   case h_8=>intro h;simp only[cQ,h,if_true];exact Ref.gh
   all_goals exact Ref.Dt fun h=>by simp only[decide_eq_true_eq] at h;simp[cQ,h,AM.dF,Ref,ew,tD,bne]
 · rename_i a b
   split
   case h_1=>intro h;simp[cQ,h,AM.dF,Ref]
   case h_8=>trivial
   all_goals simp[cQ,AM.dF,Ref]
 · trivial
def Sj (neg:Bool) (a b:V):bR:=
 match a,b with
 | .nilp,.nilp=> .done (.bool (true !=neg))
 | .nilp,.eptr .. | .nilp,.epk .. | .eptr ..,.nilp| .epk ..,.nilp=> .done (.bool (false !=neg))
 | .epk i z _ 0,.epk i' z' _ 0=> .cq (z=z'∧0 <z) (.done (.bool ((i==i') !=neg)))
 | _,_=> .fail
theorem Ref.Sk {neg:Bool} {a b:V}:Ref (Sj neg a b) (AM.dF ((GZ a b).map fun c=> .bool (c !=neg))):=by
 unfold Sj
 split
 all_goals first| exact rfl| trivial| skip
 intro h
 obtain⟨rfl,hz⟩:=h
 simp only[GZ,hz,and_self,if_true,Option.map_some]
 exact rfl
def Sl (sz:Nat) (v i:V):bR:=
 match v,i with
 | .sl r g off len,.int _ n=> .cr r fun ⟨cV,gY,dZ,iX,jm⟩=> .cq (0≤n∧n<len∧gY=sz∧cV=g) (match off with
   | 0=> .done (.ptr r g n.toNat 0)
   | off=> .done (.ptr r g (off+n.toNat) 0))
 | .lit sz' xs,.int _ n=> .cq (0≤n∧sz'=sz) (.ex V (fun e=>xs[n.toNat]? =some e) fun e=> .done (.eptr e 0))
 | .litk sz' xs,.int _ n=> .cq (0≤n∧sz'=sz∧0 <sz) (.ex V (fun e=>xs[n.toNat]? =some e) fun e=> .done (.epk n.toNat sz e 0))
 | _,_=> .fail
theorem Ref.idx {sz:Nat} {v i:V}:Ref (Sl sz v i) (jA sz v i):=by
 unfold Sl
 split
 · refine⟨_,rfl,fun ⟨gen,sz',arr,fz,es⟩=> ?_⟩
   intro h
   try simp only at h
   simp only[h,and_self,if_true]
   split
   · simp[Ref]
   · exact rfl
 · intro h e he
   simp only[jA,h,and_self,if_true,he]
   exact rfl
 · intro h e he
   obtain⟨h1,rfl,h3⟩:=h
   simp only[jA,h1,h3,and_self,if_true,he]
   exact rfl
 · trivial
def Sm (sz:Nat) (v:V) (l h m:Option V):bR:=
 match m with
 | some mx=> (match v,h with
   | .sl r g off len,some hv=> .cr r fun ⟨cV,gY,dZ,iX,jm⟩=>match jm with
     | some es=> .cq (cV=g∧gY=sz) <| vt 0 l fun l=>vt len (some hv) fun h=>vt 0 (some mx) fun m=> .cq (l≤h∧h≤m∧off+m≤es.length∧m≠l) (.done .any)
     | none=> .fail
   | _,_=> .fail)
 | none=>match v with
   | .sl r g off len=> .cr r fun ⟨cV,gY,dZ,iX,jm⟩=>match jm with
     | some es=> .cq (cV=g∧gY=sz) <| vt 0 l fun l=>vt len h fun h=> .cq (l≤h∧off+h≤es.length) (.done (.sl r g (off+l) (h - l)))
     | none=> .fail
   | .lit sz' xs=> .cq (sz'=sz) <| vt 0 l fun l=>vt xs.length h fun h=> .cq (l≤h∧h≤xs.length) (.ex (List V) (fun ys=>bb xs l (h - l)=ys) fun ys=> .done (.lit sz ys))
   | .nils=>vt 0 l fun l=>vt 0 h fun h=> .cq (l≤h∧h≤0) (.done .nils)
   | _=> .fail
theorem Ref.slc {sz:Nat} {v:V} {l h m:Option V}:Ref (Sm sz v l h m) (sh sz v l h m):=by
 unfold Sm
 split
 · split
   · rename_i mx _ _ r g off len hv
     refine⟨_,rfl,fun ⟨gen,sz',arr,fz,es⟩=> ?_⟩
     cases es with
     | none=>trivial
     | some es=>
       intro hc
       try simp only at hc
       simp only[hc,and_self,if_true]
       refine Ref.KB fun l' hl=>Ref.KB fun h' hh=>Ref.KB fun m' hm=> ?_
       intro hk
       simp only[hl,hh,hm,hk,and_self,if_true,if_false]
       exact rfl
   · trivial
 · split
   · rename_i r g off len
     refine⟨_,rfl,fun ⟨gen,sz',arr,fz,es⟩=> ?_⟩
     cases es with
     | none=>trivial
     | some es=>
       intro hc
       try simp only at hc
       simp only[hc,and_self,if_true]
       refine Ref.KB fun l' hl=>Ref.KB fun h' hh=> ?_
       intro hk
       simp only[hl,hh,hk,and_self,if_true]
       exact rfl
   · rename_i sz' xs
     intro hc
     refine Ref.KB fun l' hl=>Ref.KB fun h' hh=> ?_
     rintro hk ys rfl
     simp only[sh,lr,hc,if_true,hl,hh,hk,and_self,AM.dF]
     exact rfl
   · refine Ref.KB fun l' hl=>Ref.KB fun h' hh=> ?_
     intro hk
     have h1:cf 0 none=some 0:=rfl
     simp only[sh,lr,hl,hh,h1,hk.1,hk.2,Option.isNone_none,AM.dF,Nat.le_refl,and_self,or_true,if_true]
     exact rfl
   · trivial
def vu (x:V) (lo hi:Option V):bR:=
 match x with
 | .str s=>vt 0 lo fun l=>vt s.length hi fun h=> .cq (l≤h∧h≤s.length) (.done (.str ((s.drop l).take (h - l))))
 | _=> .fail
theorem Ref.eX {x:V} {l h:Option V}:Ref (vu x l h) (AM.dF (gg x l h)):=by
 unfold vu
 split
 · refine Ref.KB fun l' hl=>Ref.KB fun h' hh=> ?_
   intro hk
   simp only[gg,hl,hh,hk,and_self,if_true,AM.dF]
   exact rfl
 · trivial
def BY (agg:Bool) (sz r g idx off:Nat) (v:V):bR:=
 .cr r fun ⟨cV,gY,dZ,iX,jm⟩=>match jm with
  | some es=> .cq (cV=g∧iX=false) <| (match dZ with
    | true=> .ex V (fun e=>es[idx]? =some e) fun e=>Kz agg off sz e v fun e'=> .bW r ⟨cV,gY,dZ,iX,some (es.set idx e')⟩ (.done (.tuple []))
    | false=>match es,idx with
      | [e],0=>Kz agg off sz e v fun e'=> .bW r ⟨cV,gY,dZ,iX,some [e']⟩ (.done (.tuple []))
      | es,idx=> .ex V (fun e=>es[idx]? =some e) fun e=>Kz agg off sz e v fun e'=> .bW r ⟨cV,gY,dZ,iX,some (es.set idx e')⟩ (.done (.tuple [])))
  | none=> .fail
theorem Ref.mh {agg:Bool} {sz r g idx off:Nat} {v:V}:Ref (BY agg sz r g idx off v) (aF.mh agg sz r g idx off v):=by
 unfold BY aF.mh
 simp only[NT]
 refine⟨_,rfl,fun ⟨gen,sz',arr,fz,es⟩=> ?_⟩
 cases es with
 | none=>trivial
 | some es=>
   intro hc
   try simp only at hc
   simp only[hc,and_self,if_true]
   have IG:Ref (.ex V (fun e=>es[idx]? =some e) fun e=>match j5 agg off sz e v with
       | some e'=> .bW r ⟨gen,sz',arr,fz,some (es.set idx e')⟩ (.done (.tuple []))
       | none=> .fail) (match es[idx]? with
         | some e=>match dY agg off sz e v with
           | some e'=> .bW r {gen:=gen,sz:=sz',arr:=arr,fz:=fz,es:=some (es.set idx e')} (.done (.tuple []))
           | none=> .fail
         | none=> .fail):=by
     intro e he
     simp only[he]
     cases hp:j5 agg off sz e v with
     | none=>trivial
     | some e'=>simp only[wx hp];exact⟨_,rfl,rfl⟩
   rw[hc.1,hc.2] at IG
   cases arr with
   | true=>exact IG
   | false=>
     simp only
     split
     · rename_i e
       simp only[List.getElem?_cons_zero]
       cases hp:j5 agg off sz e v with
       | none=>trivial
       | some e'=>simp only[wx hp];exact⟨_,rfl,rfl⟩
     · exact IG
def vw:List (Nat×bg)→(List (Nat×V)→bR)→bR
 | [],k=>k []
 | (i,x)::ps,k=>fF x fun v=>vw ps fun vs=>k ((i,v)::vs)
theorem Ref.j8: ∀ {ps:List (Nat×bg)} {k:List (Nat×V)→bR} {k0:List (Nat×V)→Act},(∀v,Ref (k v) (k0 v))→Ref (vw ps k) (AM.j8 ps k0)
 | [],_,_,h=>h _
 | (i,x)::ps,_,_,h=>Ref.ev fun v=>Ref.j8 fun vs=>h _
def Fz (r sz:Nat) (zero:V) (n:Nat) (ps:List (Nat×V)):bR:=
 bif kq zero sz &&Nat.ble 1 sz &&Nat.ble (n*sz) 16777216 then(match (bif gq ps n then qE sz 0 ps else none) with
  | some es=> .mV r fun g=> .bW r {gen:=g,sz,arr:=true,fz:=false,es:=some es} (.done (.sl r g 0 n))
  | none=>match iG sz (List.replicate n zero) ps with
    | some es=> .mV r fun g=> .bW r {gen:=g,sz,arr:=true,fz:=false,es:=some es} (.done (.sl r g 0 n))
    | none=> .fail) else .fail
def op2 (E:Env):vb→bR
 | .move x=>fF x .done
 | .pick c a b=>fF c fun| .bool c=> .ite c (fF a .done) (fF b .done) | _=> .fail
 | .new r sz x=>fF x fun v=>bif kq v sz &&Nat.ble 1 sz then .mV r fun g=> .bW r {gen:=g,sz,arr:=false,fz:=false,es:=some [v]} (.done (.ptr r g 0 0)) else .fail
 | .build cells parts=>yr parts fun ps=>match lB cells ps with
   | some cs=>force cs fun cs=> .done (.agg cs)
   | none=> .fail
 | .buildSlice r sz zero n parts=>tH parts fun ps=>bif kq zero sz &&Nat.ble 1 sz &&Nat.ble (n*sz) 16777216 then(match (bif gq ps n then qE sz 0 ps else none) with
   | some es=> .mV r fun g=> .bW r {gen:=g,sz,arr:=true,fz:=false,es:=some es} (.done (.sl r g 0 n))
   | none=>match iG sz (List.replicate n zero) ps with
     | some es=> .mV r fun g=> .bW r {gen:=g,sz,arr:=true,fz:=false,es:=some es} (.done (.sl r g 0 n))
     | none=> .fail) else .fail
 | .cN r sz=>bif Nat.ble 1 sz then .mV r fun g=> .bW r {gen:=g,sz,arr:=true,fz:=false,es:=some []} (.done (.sl r g 0 0)) else .fail
 | .oY r x=>fF x fun
   | .sl r1 g off len=>bif Nat.beq r1 r then .done (.sl r1 g off len) else .cr r1 fun ⟨cV,gY,dZ,iX,jm⟩=> .cq (cV=g) (.mV r fun g'=>
       .bW r ⟨g',gY,dZ,iX,jm⟩ (.bW r1 ⟨cV+1,gY,dZ,iX,none⟩ (.done (.sl r g' off len))))
   | v=> .done v
 | .makeSlice r sz bytes zero len cap=>fF len fun l=>fF cap fun c=>match l,c with
   | .int _ n,.int _ m=> .cq (0≤n∧n≤m∧m*bytes≤140737488355328∧aZ zero sz=true∧0 <sz∧m≤9223372036854775807)
       (.mV r fun g=> .bW r {gen:=g,sz,arr:=true,fz:=false,es:=some (List.replicate m.toNat zero)} (.done (.sl r g 0 n.toNat)))
   | _,_=> .fail
 | .load agg sz x=>fF x fun
   | .ptr r g idx off=> .cr r fun ⟨cV,gY,dZ,iX,jm⟩=>match jm with
     | some es=> .cq (cV=g) (match dZ with
       | true=> .ex V (fun e=>es[idx]? =some e) fun e=>rF agg off sz e
       |  false=>match es,idx with
          | [e],0=>rF agg off sz e
          | es,idx=> .ex V (fun e=>es[idx]? =some e) fun e=>rF agg off sz e)
     | none=> .fail
   | .eptr e off=>rF agg off sz e
   | .epk _ _ e off=>rF agg off sz e
   | _=> .fail
 | .store agg sz x v=>fF x fun
   | .ptr r g idx off=> .cr r fun ⟨cV,gY,dZ,iX,jm⟩=>match dZ with
     | true=>fF v fun v=>vq v fun v=>BY agg sz r g idx off v
     | false=>fF v fun v=>BY agg sz r g idx off v
   | _=> .fail
 | .nilCheck x=>fF x fun
   | .ptr r g idx off=> .done (.ptr r g idx off)
   | .eptr e off=> .done (.eptr e off)
   | .epk i z e off=> .done (.epk i z e off)
   | .fn f caps=> .done (.fn f caps)
   | .bfn f caps=> .done (.bfn f caps)
   | _=> .fail
 | .bin op x y=>fF x fun a=>fF y fun b=>Si op a b
 | .tI neg x y=>fF x fun a=>fF y fun b=>match a,b with
   | .bool a,.bool b=> .done (.bool ((a==b) !=neg))
   | _,_=> .fail
 | .KC neg ks x y=>fF x fun a=>fF y fun b=>match a,b with
   | .agg as,.agg bs=>match gk ks as bs with
       | some b=> .done (.bool (b !=neg))
       | none=> .fail
   | _,_=> .fail
 | .un op x=>fF x fun a=>j6 (Fv op a)
 | .il k x=>fF x fun| .int _ n=> .done (.int k (k.wrap n)) | _=> .fail
 | .yt x=>fF x fun| .int _ n=> .done (.float (FloatKind.f64.nearest n)) | _=> .fail
 | .yu k x=>fF x fun
   | .float b=> .ex Int (fun n=> (FloatKind.f64.decode b).toInt .zero=some n∧k.min≤n∧n≤k.max) fun n=> .done (.int k n)
   | _=> .fail
 | .tJ x=>fF x fun| .str s=> .done (.str s) | _=> .fail
 | .cU t x=>fF x fun v=> .done (.iface t v)
 | .assert t ok zero x=>fF x fun
   | .nili=>match ok with| true=> .done (.tuple [zero,.bool false]) | false=> .fail
   | .iface t' v=>bif Nat.beq t' t then(match ok with| true=> .done (.tuple [v,.bool true]) | false=> .done v) else(match ok with| true=> .done (.tuple [zero,.bool false]) | false=> .fail)
   | _=> .fail
 | .iH f caps=>Dr caps fun vs=> .done (.fn f vs)
 | .eX x lo hi=>fF x fun v=>IE lo fun l=>IE hi fun h=>vu v l h
 | .slice sz x lo hi mx=>fF x fun v=>IE lo fun l=>IE hi fun h=>IE mx fun m=>Sm sz v l h m
 | .fieldAddr off x=>fF x fun
   | .ptr r g idx o=> .done (.ptr r g idx (o+off))
   | .eptr e o=> .done (.eptr e (o+off))
   | .epk i z e o=> .done (.epk i z e (o+off))
   | _=> .fail
 | .field agg off sz x=>fF x fun
   | .agg cs=>rF agg off sz (.agg cs)
   | _=> .fail
 | .indexAddr sz x i=>fF x fun v=>fF i fun i=>Sl sz v i
 | .bZ n sz x i=>fF x fun v=>fF i fun i=>match v,i with
   | .ptr r g idx off,.int _ j=> .cq (0≤j∧j<n) (.done (.ptr r g idx (off+j.toNat*sz)))
   | .eptr e off,.int _ j=> .cq (0≤j∧j<n) (.done (.eptr e (off+j.toNat*sz)))
   | _,_=> .fail
 | .cj x i=>fF x fun v=>fF i fun i=>match v,i with
   | .str s,.int _ n=> .cq (0≤n) (.ex UInt8 (fun b=>s[n.toNat]? =some b) fun b=> .done (.int .u8 b.toNat))
   | _,_=> .fail
 | .pr agg n sz x i=>fF x fun v=>fF i fun i=>match i with
   | .int _ j=> .cq (0≤j∧j<n∧v.isAgg=true) (.ex V (fun e=>part agg (j.toNat*sz) sz v=some e) fun e=> .done e)
   | _=> .fail
 | .len x=>fF x fun v=>j6 (rf v)
 | .dM x=>fF x fun| .str s=> .done (.int .i64 s.length) | _=> .fail
 | .min xs=>Dr xs fun vs=>j6 (js min2 vs)
 | .max xs=>Dr xs fun vs=>j6 (js max2 vs)
 | .append r sz dW s x=>fF s fun s=>fF x fun x=>j7 sz x fun ys=>KA ys fun ys=>BX r sz dW s ys
 | .copy sz d s=>fF d fun d=>fF s fun s=>j7 sz s fun ys=>match d with
   | .nils=> .done (.int .i64 0)
   | .sl r g off len=> .cr r fun ⟨cV,gY,dZ,iX,jm⟩=>match jm with
     | some es=>
       .cq (cV=g∧dZ=true∧iX=false∧gY=sz∧off+len≤es.length∧(ys.take len).all (aZ · sz)=true)
          (.bW r ⟨cV,gY,dZ,iX,some (overwrite es off (ys.take len))⟩ (.done (.int .i64 (ys.take len).length)))
     | none=> .fail
   | _=> .fail
 | .clear sz zero x=>fF x fun
   | .nils=> .done (.tuple [])
   | .sl r g off len=> .cr r fun ⟨cV,gY,dZ,iX,jm⟩=>match jm with
     | some es=> .cq (cV=g∧dZ=true∧iX=false∧gY=sz∧off+len≤es.length∧aZ zero sz=true)
          (.bW r ⟨cV,gY,dZ,iX,some (overwrite es off (List.replicate len zero))⟩ (.done (.tuple [])))
     | none=> .fail
   | _=> .fail
 | .extract x i=>fF x fun
   | .tuple vs=>j6 (nth vs i)
   | _=> .fail
 | .call r b6 f args=>fF f fun
   | .fn f caps=>Dr args fun as=>mj E r b6 f (as++caps)
   | .bfn f first=>Dr args fun as=>mj E r b6 f (first++as)
   | _=> .fail
 | .j9 i r sz zero n parts=>fF (.tmp i) fun
   | .int _ j=>tH parts fun ps=>Fz (r+16*j.toNat) sz zero n ps
   | _=> .fail
 | .ka r sz zero n parts=>vw parts fun ps=>Fz r sz zero n ps
 | .tK r sz dW s x=>fF s fun s=>fF x fun x=>j7 sz x fun ys=>BX r sz dW s ys
 | .deep x=>fF x fun v=> .Zl (BZ v)
 | .AG ks agg sz x=>fF x fun
   | .ptr r g idx off=> .cr r fun ⟨cV,gY,dZ,iX,jm⟩=>match jm with
     | some es=> .cq (cV=g) (match es,idx with
       | [e],0=>j6 ((yo agg off sz e).map (Fi ks))
       | _,_=> .fail)
     | none=> .fail
   | _=> .fail
 | .mkMap r=> .mV r fun g=> .bW r {gen:=g,sz:=0,arr:=false,fz:=false,es:=some []} (.done (.mp r g))
 | .pw q x k v=>fF x fun
   | .mp r g=>fF k fun k=>fF v fun v=>vq v fun v=> .cr r fun ⟨cV,gY,dZ,iX,jm⟩=>match jm with
     | some es=> .cq (cV=g∧gY=0∧iX=false∧isKey q k=true∧v.dX=true) (.ex (List V) (fun es'=>lC k v es=some es') fun es'=>
          .bW r ⟨cV,gY,dZ,iX,some es'⟩ (.done (.tuple [])))
     | none=> .fail
   | _=> .fail
 | .vA q ok zero x k=>fF x fun x=>fF k fun k=> .cq (isKey q k=true) (match x with
   | .mp r g=> .cr r fun ⟨cV,gY,dZ,iX,jm⟩=>match jm with
     | some es=> .cq (cV=g∧gY=0) (.ex V (fun v=>jR ok zero es k= .done v) fun v=> .done v)
     | none=> .fail
   | .mlit es=> .ex V (fun v=>jR ok zero es k= .done v) fun v=> .done v
   | _=> .fail)
 | .FA x=>fF x fun v=> (match v with
   | .fn .. =>gQ 5 v fun v' rs=>nN rs (.done v')
   | _=>vq v .done)
 | .qF r x=>fF x fun
   | .str s=> .mV r fun g=> .bW r {gen:=g,sz:=0,arr:=false,fz:=false,es:=some [.str s,.int .i64 0]} (.done (.it r g))
   | _=> .fail
 | .qG x=>   fF x fun
   | .it r g=> .cr r fun ⟨cV,gY,dZ,iX,jm⟩=>match jm with
     | some [.str s,.int .i64 p]=> .cq (cV=g∧gY=0∧iX=false) (.ite (decide (p.toNat<s.length))
          (.bW r ⟨cV,gY,dZ,iX,some [.str s,.int .i64 ((p.toNat+(Utf8.decode ⟨s.toArray⟩ p.toNat).2:Nat):Int)]⟩
            (.done (.tuple [.bool true,.int .i64 (p.toNat:Int),.int .i32 ((Utf8.decode ⟨s.toArray⟩ p.toNat).1:Int)])))
          (.done (.tuple [.bool false])))
     | _=> .fail
   | _=> .fail
 | .YC neg ks x y=>fF x fun a=>fF y fun b=>match a,b with
   | .iface t p,.iface t' q=>bif Nat.beq t t' then(match sj t ks with
       |  some k=> (match Aj k p q with
          | some b=> .done (.bool (b !=neg))
          | none=> .fail)
       | none=> .fail) else .fail
   | .nili,.iface _ _=> .done (.bool neg)
   | .iface _ _,.nili=> .done (.bool neg)
   | _,_=> .fail
 | .Sk neg x y=>fF x fun a=>fF y fun b=>Sj neg a b
 | .mapIter r x=>fF x fun
   | .mlit es=> .mV r fun g=> .bW r {gen:=g,sz:=0,arr:=false,fz:=false,es:=some [.mlit es]} (.done (.it r g))
   | _=> .fail
 | .mX x=>fF x fun
   | .str s=> .done (.lit 1 (s.map fun b=> .int .u8 b.toNat))
   | _=> .fail
 | .kb x=>fF x fun
   | .str _=> .fail
   | x=>j7 1 x fun ys=>j6 ((bytesOf ys).map .str)
 | .qH f xs=>Dr xs fun vs=> .done (.bfn f vs)
 | .yw r sz x=>fF x fun v=>vq v fun v=>bif kq v sz &&Nat.ble 1 sz then .mV r fun g=> .bW r {gen:=g,sz,arr:=false,fz:=false,es:=some [v]} (.done (.ptr r g 0 0)) else .fail
 | .qI r g N sz s x=>fF s fun s=>fF x fun x=>j7 sz x fun ys=> .cq (ys.all (aZ · sz)=true) <| bif Nat.ble 1 sz then(match s with
   | .sl r' g' off len=> .cq (r'=r∧g'=g∧off=0∧0 <ys.length∧len+ys.length≤N) <| .cr r fun ⟨cV,gY,dZ,iX,jm⟩=>match jm with
     | some es=> .cq (cV=g∧iX=false∧gY=sz∧es.length=len) (.bW r ⟨cV,gY,dZ,iX,some (es++ys)⟩ (.done (.sl r g 0 (len+ys.length))))
     | none=> .fail
   | _=> .fail) else .fail
 | .qJ m r g N sz dW s x=>fF s fun s=>fF x fun x=>j7 sz x fun ys=> .cq (ys.all (aZ · sz)=true) <| bif Nat.ble 1 sz then(match s with
   | .sl r' g' off len=> .cq (r'=r∧g'=g∧off=0∧0 <ys.length∧N<len+ys.length∧len+ys.length≤dW) <| .cr r fun ⟨cV,gY,dZ,iX,jm⟩=>match jm with
     | some es=> .cq (cV=g∧iX=false∧gY=sz∧es.length=len) (.mV m fun g'=> .bW m {gen:=g',sz,arr:=true,fz:=false,es:=some (es++ys)} (.done (.sl m g' 0 (len+ys.length))))
     | none=> .fail
   | _=> .fail) else .fail
 | .bad=> .fail
theorem Ref.QW {r sz:Nat} {zero:V} {n:Nat} {ps:List (Nat×V)}:Ref (Fz r sz zero n ps) (match cX sz (List.replicate n zero) ps with
   | some es=>if aZ zero sz &&decide (0 <sz∧n*sz≤16777216) then AM.Act.cr r fun o=>AM.Act.bW r {gen:=o.gen+1,sz,arr:=true,fz:=false,es:=some es} (.done (.sl r (o.gen+1) 0 n)) else AM.Act.fail
   | none=>AM.Act.fail):=by
 refine Ref.Dt fun h=> ?_
 simp only[Bool.and_eq_true] at h
 have h1:=jB h.1.1
 have h2:0 <sz:=Nat.le_of_ble_eq_true h.1.2
 have h3:n*sz≤16777216:=Nat.le_of_ble_eq_true h.2
 split
 · rename_i es he
   have hl:gq ps n=true:=by
     cases hb:gq ps n with
     | true=>rfl
     | false=>simp[hb] at he
   simp only[hl,cond_true] at he
   have h4:=si (pre:=[]) (es:=List.replicate n zero) he rfl (by simp[lu hl])
   simp only[List.nil_append] at h4
   simp only[h4,h1,h2,h3,and_self,decide_true,Bool.and_self,if_true]
   exact⟨_,rfl,fun o=> ⟨_,rfl,rfl⟩⟩
 · cases hf:iG sz (List.replicate n zero) ps with
   | none=>trivial
   | some es=>
     simp only[mG hf,h1,h2,h3,and_self,decide_true,Bool.and_self,if_true]
     exact⟨_,rfl,fun o=> ⟨_,rfl,rfl⟩⟩
theorem Ref.op {E:Env} {o:vb}:Ref (op2 E o) (aF E o):=by
 cases o with
 | j9 i r sz zero n parts=>
   refine⟨_,rfl,fun v=> ?_⟩
   cases v<;>first| trivial| skip
   exact Ref.fu fun ps=>Ref.QW
 | ka r sz zero n parts=>exact Ref.j8 fun ps=>Ref.QW
 | mkMap r=>exact⟨_,rfl,fun o=> ⟨_,rfl,rfl⟩⟩
 | qF r x=>
   refine Ref.ev fun v=> ?_
   cases v<;>first| trivial| exact⟨_,rfl,fun o=> ⟨_,rfl,rfl⟩⟩
 | qG x=>
   refine Ref.ev fun v=> ?_
   cases v<;>first| trivial| skip
   refine⟨_,rfl,fun ⟨gen,sz,arr,fz,es⟩=> ?_⟩
   simp only
   split
   · intro hc
     obtain⟨rfl,rfl,rfl⟩:=hc
     simp only[and_self,if_true]
     refine⟨fun he=> ?_,fun he=> ?_⟩
     · rw[if_pos (by simpa using he)];exact⟨_,rfl,rfl⟩
     · rw[if_neg (by simpa using he)];exact rfl
   · trivial
 | FA x=>
   refine Ref.ev fun v=> ?_
   cases v with
   | fn f caps=>exact Ref.gC fun v' rs=>Ref.dg rfl
   | _=>exact Ref.xn fun v=>rfl
 | pw q x k v=>
   refine Ref.ev fun x=> ?_
   cases x<;>first| trivial| skip
   refine Ref.ev fun k=>Ref.ev fun v=>Ref.xn fun v=> ⟨_,rfl,fun ⟨gen,sz,arr,fz,es⟩=> ?_⟩
   cases es with
   | none=>trivial
   | some es=>
     rintro hc es' he
     simp only[hc,he,and_self,if_true]
     exact⟨_,by simp[hc],rfl⟩
 | vA q ok zero x k=>
   refine Ref.ev fun x=>Ref.ev fun k=> ?_
   intro hk
   simp only[hk,if_true]
   cases x<;>first| trivial| skip
   case mp r g=>
     refine⟨_,rfl,fun ⟨gen,sz,arr,fz,es⟩=> ?_⟩
     cases es with
     | none=>trivial
     | some es=>
       rintro hc v hv
       show (if gen=g∧sz=0 then jR ok zero es k else Act.fail)= .done v
       rw[if_pos hc]
       exact hv
   case mlit es=>
     rintro v hv
     exact hv
 | tK r sz dW s x=>exact Ref.ev fun s=>Ref.ev fun x=>Ref.content fun ys=>Ref.append
 | deep=>exact Ref.ev fun v=>rfl
 | AG ks agg sz x=>
   refine Ref.ev fun v=> ?_
   cases v<;>first| trivial| skip
   case ptr r g idx off=>
     refine⟨_,rfl,fun ⟨gen,sz',arr,fz,es⟩=> ?_⟩
     cases es with
     | none=>trivial
     | some es=>
       intro hc
       try simp only at hc
       simp only[hc,if_true]
       split
       · simp only[List.getElem?_cons_zero]
         exact Ref.dF fun v hv=>by
          obtain⟨v0,h0,rfl⟩:=Option.map_eq_some_iff.1 hv
          rw[lA h0];rfl
       · trivial
 | move x=>exact Ref.ev fun v=>rfl
 | pick c a b=>
   refine Ref.ev fun v=> ?_
   cases v
   case bool c=>cases c with
     | true=>exact⟨fun _=>Ref.ev (fun v=>rfl),fun h=> (by cases h)⟩
     | false=>exact⟨fun h=> (by cases h),fun _=>Ref.ev (fun v=>rfl)⟩
   all_goals trivial
 | new r sz x=>
   refine Ref.ev fun v=>Ref.Dt fun h=> ?_
   simp only[Bool.and_eq_true] at h
   have h1:=jB h.1
   have h2:0 <sz:=Nat.le_of_ble_eq_true h.2
   simp only[h1,h2,decide_true,Bool.and_self,if_true]
   exact⟨_,rfl,fun o=> ⟨_,rfl,rfl⟩⟩
 | build cells parts=>
   refine Ref.gp fun ps=> ?_
   cases hf:lB cells ps with
   | none=>trivial
   | some cs=>simp only[rH hf,force_eq];exact rfl
 | buildSlice r sz zero n parts=>
   refine Ref.fu fun ps=>Ref.Dt fun h=> ?_
   simp only[Bool.and_eq_true] at h
   have h1:=jB h.1.1
   have h2:0 <sz:=Nat.le_of_ble_eq_true h.1.2
   have h3:n*sz≤16777216:=Nat.le_of_ble_eq_true h.2
   split
   · rename_i es he
     have hl:gq ps n=true:=by
       cases hb:gq ps n with
       | true=>rfl
       | false=>simp[hb] at he
     simp only[hl,cond_true] at he
     have h4:=si (pre:=[]) (es:=List.replicate n zero) he rfl (by simp[lu hl])
     simp only[List.nil_append] at h4
     simp only[h4,h1,h2,h3,and_self,decide_true,Bool.and_self,if_true]
     exact⟨_,rfl,fun o=> ⟨_,rfl,rfl⟩⟩
   · cases hf:iG sz (List.replicate n zero) ps with
     | none=>trivial
     | some es=>
       simp only[mG hf,h1,h2,h3,and_self,decide_true,Bool.and_self,if_true]
       exact⟨_,rfl,fun o=> ⟨_,rfl,rfl⟩⟩
 | cN r sz=>
   refine Ref.Dt fun h=> ?_
   have h2:0 <sz:=Nat.le_of_ble_eq_true h
   simp only[aF,h2,if_true]
   exact⟨_,rfl,fun o=> ⟨_,rfl,rfl⟩⟩
 | oY r x=>
   refine Ref.ev fun v=> ?_
   cases v
   case sl r1 g off len=>
     cases hb:Nat.beq r1 r with
     | true=>
       obtain rfl:=Nat.eq_of_beq_eq_true hb
       simp only[if_true,hb,cond_true]
       exact rfl
     | false=>
       have:r1≠r:=Nat.ne_of_beq_eq_false hb
       simp only[hb,cond_false,this,if_false]
       refine⟨_,rfl,fun ⟨gen,sz',arr,fz,es⟩=> ?_⟩
       intro hg
       have hg':gen=g:=hg
       subst hg'
       simp only[if_true]
       exact⟨_,rfl,fun o=> ⟨_,rfl,_,rfl,rfl⟩⟩
   all_goals exact rfl
 | makeSlice r sz bytes zero len cap=>
   refine Ref.ev fun l=>Ref.ev fun c=> ?_
   cases l<;>first| trivial| skip
   cases c<;>first| trivial| skip
   intro h
   simp only[h,and_self,if_true]
   exact⟨_,rfl,fun o=> ⟨_,rfl,rfl⟩⟩
 | load agg sz x=>
   refine Ref.ev fun v=> ?_
   cases v<;>first| trivial| skip
   case ptr r g idx off=>
     refine⟨_,rfl,fun ⟨gen,sz',arr,fz,es⟩=> ?_⟩
     cases es with
     | none=>trivial
     | some es=>
       intro hc
       try simp only at hc
       simp only[hc,if_true]
       have IG:Ref (.ex V (fun e=>es[idx]? =some e) fun e=>rF agg off sz e) (match es[idx]? with
         | some e=>AM.dF (part agg off sz e)
         | none=> .fail):=by
         intro e he
         simp only[he]
         rw[pk];exact Ref.dF fun v hv=>lA hv
       cases arr with
       | true=>exact IG
       | false=>
         simp only
         split
         · rw[pk];exact Ref.dF fun v hv=>lA hv
         · exact IG
   case eptr e off=>simp only[pk];exact Ref.dF fun v hv=>lA hv
   case epk i z e off=>simp only[pk];exact Ref.dF fun v hv=>lA hv
 | store agg sz x v=>
   refine Ref.ev fun v=> ?_
   cases v<;>first| trivial| skip
   refine⟨_,rfl,fun ⟨gen,sz',arr,fz,es⟩=> ?_⟩
   cases arr with
   | true=>exact Ref.ev fun v=>Ref.xn fun v=>Ref.mh
   | false=>exact Ref.ev fun v=>Ref.mh
 | nilCheck x=>exact Ref.ev fun v=>by cases v<;>first| trivial| exact rfl
 | bin op x y=>exact Ref.ev fun a=>Ref.ev fun b=>Ref.bin
 | tI neg x y=>
   refine Ref.ev fun a=>Ref.ev fun b=> ?_
   cases a<;>first| trivial| skip
   cases b<;>first| trivial| exact rfl
 | KC neg ks x y=>
   refine Ref.ev fun a=>Ref.ev fun b=> ?_
   cases a<;>first| trivial| skip
   cases b<;>first| trivial| skip
   rename_i as bs
   simp only
   cases gk ks as bs with
   | none=>trivial
   | some b=>exact rfl
 | un op x=>exact Ref.ev fun a=>Ref.gh
 | il k x=>exact Ref.ev fun v=>by cases v<;>first| trivial| exact rfl
 | yt x=>exact Ref.ev fun v=>by cases v<;>first| trivial| exact rfl
 | yu k x=>
   refine Ref.ev fun v=> ?_
   cases v<;>first| trivial| skip
   rintro n ⟨h1,h2,h3⟩
   simp only[h1,h2,h3,and_self,if_true]
   exact rfl
 | tJ x=>exact Ref.ev fun v=>by cases v<;>first| trivial| exact rfl
 | cU t x=>exact Ref.ev fun v=>rfl
 | assert t ok zero x=>
   refine Ref.ev fun v=> ?_
   cases v<;>first| trivial| skip
   case nili=>cases ok<;>first| trivial| exact rfl
   case iface t' v=>
     cases hb:Nat.beq t' t with
     | true=>
       have:=Nat.eq_of_beq_eq_true hb
       cases ok<;>simp[hb,this,Ref]
     | false=>
       have:t'≠t:=Nat.ne_of_beq_eq_false hb
       cases ok<;>simp[hb,this,Ref]
 | iH f caps=>exact Ref.ym fun v=>rfl
 | eX x lo hi=>exact Ref.ev fun v=>Ref.Aa fun l=>Ref.Aa fun h=>Ref.eX
 | slice sz x lo hi mx=>
   rw[qD]
   exact Ref.ev fun v=>Ref.Aa fun l=>Ref.Aa fun h=>Ref.Aa fun m=>Ref.slc
 | fieldAddr off x=>exact Ref.ev fun v=>by cases v<;>first| trivial| exact rfl
 | field agg off sz x=>
   refine Ref.ev fun v=> ?_
   cases v<;>first| trivial| skip
   rename_i cs
   show Ref (rF agg off sz (V.agg cs)) (AM.dF (part agg off sz (V.agg cs)))
   rw[pk]
   exact Ref.dF fun v hv=>lA hv
 | indexAddr sz x i=>
   rw[jQ]
   exact Ref.ev fun v=>Ref.ev fun i=>Ref.idx
 | bZ n sz x i=>
   refine Ref.ev fun v=>Ref.ev fun i=> ?_
   cases v<;>first| trivial| skip
   all_goals
     cases i<;>first| trivial| skip
     intro h
     simp only[h,and_self,if_true]
     exact rfl
 | cj x i=>
   refine Ref.ev fun v=>Ref.ev fun i=> ?_
   cases v<;>first| trivial| skip
   cases i<;>first| trivial| skip
   intro h b hb
   simp only[h,if_true,hb]
   exact rfl
 | pr agg n sz x i=>
   refine Ref.ev fun v=>Ref.ev fun i=> ?_
   cases i<;>first| trivial| skip
   intro h e he
   simp only[h,and_self,if_true,he]
   exact rfl
 | len x=>exact Ref.ev fun v=>Ref.gh
 | dM x=>exact Ref.ev fun v=>by cases v<;>first| trivial| exact rfl
 | min xs=>exact Ref.ym fun vs=>Ref.gh
 | max xs=>exact Ref.ym fun vs=>Ref.gh
 | append r sz dW s x=>
   rw[nK]
   exact Ref.ev fun s=>Ref.ev fun x=>Ref.content fun ys=>Ref.kJ fun ys=>Ref.append
 | copy sz d s=>
   refine Ref.ev fun d=>Ref.ev fun s=>Ref.content fun ys=> ?_
   cases d<;>first| trivial| exact rfl| skip
   refine⟨_,rfl,fun ⟨gen,sz',arr,fz,es⟩=> ?_⟩
   cases es with
   | none=>trivial
   | some es=>
     intro hc
     try simp only at hc
     simp only[hc,and_self,if_true]
     exact⟨_,by simp[hc],rfl⟩
 | clear sz zero x=>
   refine Ref.ev fun d=> ?_
   cases d<;>first| trivial| exact rfl| skip
   refine⟨_,rfl,fun ⟨gen,sz',arr,fz,es⟩=> ?_⟩
   cases es with
   | none=>trivial
   | some es=>
     intro hc
     try simp only at hc
     simp only[hc,and_self,if_true]
     exact⟨_,by simp[hc],rfl⟩
 | extract x i=>
   refine Ref.ev fun v=> ?_
   cases v<;>first| trivial| skip
   simp only[Fy]
   exact Ref.gh
 | call r b6 f args=>
   refine Ref.ev fun v=> ?_
   cases v<;>first| trivial| exact Ref.ym fun as=>Ref.pq
 | YC neg ks x y=>
   refine Ref.ev fun a=>Ref.ev fun b=> ?_
   cases a<;>first| trivial| skip
   case nili=>cases b<;>first| trivial| exact rfl
   case iface t p=>
     cases b<;>first| trivial| exact rfl| skip
     rename_i t' q
     cases hb:Nat.beq t t' with
     | true=>
       have:=Nat.eq_of_beq_eq_true hb
       subst this
       simp only[hb,cond_true,if_true]
       cases sj t ks with
       | none=>trivial
       | some k=>
         simp only
         cases Aj k p q with
         | none=>trivial
         | some b=>exact rfl
     | false=>simp only[hb,cond_false];trivial
 | Sk neg x y=>exact Ref.ev fun a=>Ref.ev fun b=>Ref.Sk
 | mapIter r x=>
   refine Ref.ev fun v=> ?_
   cases v<;>first| trivial| exact⟨_,rfl,fun o=> ⟨_,rfl,rfl⟩⟩
 | mX x=>exact Ref.ev fun v=>by cases v<;>first| trivial| exact rfl
 | kb x=>
   refine Ref.ev fun v=> ?_
   cases v<;>first| trivial| exact Ref.content fun ys=>Ref.gh
 | yw r sz x=>
   refine Ref.ev fun v=>Ref.xn fun v=> ?_
   refine Ref.Dt fun h=> ?_
   simp only[Bool.and_eq_true] at h
   simp only[jB h.1,show 0 <sz from Nat.le_of_ble_eq_true h.2,decide_true,Bool.and_self,if_true]
   exact⟨_,rfl,fun o=> ⟨_,rfl,rfl⟩⟩
 | qI r g N sz s x=>
   refine Ref.ev fun s=>Ref.ev fun x=>Ref.content fun ys=> ?_
   intro hy
   refine Ref.Dt fun h=> ?_
   simp only[hy,show 0 <sz from Nat.le_of_ble_eq_true h,decide_true,Bool.and_self,if_true]
   cases s<;>first| trivial| skip
   case sl r' g' off len=>
     intro kQ
     simp only[kQ,and_self,if_true]
     refine⟨_,rfl,fun ⟨gen,sz',arr,fz,es⟩=> ?_⟩
     cases es with
     | none=>trivial
     | some es=>
       intro hc
       try simp only at hc
       simp only[hc,and_self,if_true]
       exact⟨_,rfl,rfl⟩
 | qJ m r g N sz dW s x=>
   refine Ref.ev fun s=>Ref.ev fun x=>Ref.content fun ys=> ?_
   intro hy
   refine Ref.Dt fun h=> ?_
   simp only[hy,show 0 <sz from Nat.le_of_ble_eq_true h,decide_true,Bool.and_self,if_true]
   cases s<;>first| trivial| skip
   case sl r' g' off len=>
     intro kQ
     simp only[kQ,and_self,if_true]
     refine⟨_,rfl,fun ⟨gen,sz',arr,fz,es⟩=> ?_⟩
     cases es with
     | none=>trivial
     | some es=>
       intro hc
       try simp only at hc
       simp only[hc,and_self,if_true]
       exact⟨_,rfl,fun o=> ⟨_,rfl,rfl⟩⟩
 | qH f xs=>exact Ref.ym fun vs=>rfl
 | bad=>trivial
end Go.AM
namespace Go.AM
def G0 (E:Env) (o:cF):bR:=match o.guard with
 | none=>op2 E o.op
 | some (t,want)=> .oR t fun
   | .bool b=> (match want with
     | true=> .ite b (op2 E o.op) (.done fj)
     | false=> .ite b (.done fj) (op2 E o.op))
   | .tuple []=> .done fj
   | _=> .fail
theorem Ref.oper {E:Env} {o:cF}:Ref (G0 E o) (eM E o):=by
 unfold G0 eM
 cases o.guard with
 | none=>exact Ref.op
 | some p=>
   obtain⟨t,want⟩:=p
   refine⟨_,rfl,fun v=> ?_⟩
   cases v<;>first| trivial| skip
   case bool b=>cases b<;>cases want<;>simp[Ref,Ref.op]
   case tuple vs=>cases vs with
    | nil=>exact rfl
    | cons=>trivial
def IH (E:Env):List cF→SS→(SS→Prop)→Prop
 | [],S,Q=>Q S
 | o::os,S,Q=>eR E (G0 E o) S fun v S' _ _=>match S' with
   | ⟨T,O⟩=>match o.dst with
     | some d=>IH E os ⟨(d,v)::T,O⟩ Q
     | none=>IH E os ⟨T,O⟩ Q
def II (E:Env):List cF→SS→(List fK→SS→Prop)→Prop
 | [],S,Q=>Q [] S
 | o::os,S,Q=>eR E (G0 E o) S fun v S' r w=>match S' with
   | ⟨T,O⟩=>match o.dst with
     | some d=>II E os ⟨(d,v)::T,O⟩ fun fs Sn=>Q (⟨r,.t d::w⟩::fs) Sn
     | none=>II E os ⟨T,O⟩ fun fs Sn=>Q (⟨r,w⟩::fs) Sn
section
variable {E:Env}
theorem FB {a:Act} {σ:St} {Q:V→St→Prop} (h:sS E a σ fun v σ' _ _=>Q v σ'):AF E a σ Q:=by
 obtain⟨n,v,σ',h1,h2⟩:=h
 exact⟨n,v,σ',h1,h2⟩
theorem sk: ∀ {os:List cF} {S:SS} {Q:SS→Prop} {σ:St},IH E os S Q→S.On σ→NR E os σ fun σ'=> ∃S',S'.On σ'∧Q S'
 | [],S,Q,σ,h,ho=>by rw[xE];exact⟨S,ho,h⟩
 | o::os,S,Q,σ,h,ho=>by
   rw[tj]
   refine FB (pj (dJ Ref.oper h ho) ?_)
   rintro v σ' r w ⟨⟨T,O⟩,vB,h'⟩
   have hp:=vB.put o.dst v
   cases hd:o.dst with
   | none=>simp only[hd] at h' hp ⊢;exact sk h' hp
   | some d=>simp only[hd] at h' hp ⊢;exact sk h' hp
theorem sm: ∀ {os:List cF} {S:SS} {Q:List fK→SS→Prop} {σ:St},II E os S Q→S.On σ→Zj E os σ fun fs σ'=> ∃S',S'.On σ'∧Q fs S'
 | [],S,Q,σ,h,ho=>by rw[xH];exact⟨S,ho,h⟩
 | o::os,S,Q,σ,h,ho=>by
   rw[tB]
   refine pj (dJ Ref.oper h ho) ?_
   rintro v σ' r w ⟨⟨T,O⟩,vB,h'⟩
   have hp:=vB.put o.dst v
   cases hd:o.dst with
   | none=>simp only[hd] at h' hp ⊢;exact sm h' hp
   | some d=>simp only[hd] at h' hp ⊢;exact sm h' hp
def thenS (Q:bF→SS→Prop) (k:SS→Prop):bF→SS→Prop
 | .normal,S=>k S
 | .exit id,S=>Q (.exit id) S
 | .ret,S=>Q .ret S
def IJ (id:Nat) (Q:bF→SS→Prop):bF→SS→Prop
 | .exit kj,S=>bif Nat.beq kj id then Q .normal S else Q (.exit kj) S
 | .normal,S=>Q .normal S
 | .ret,S=>Q .ret S
structure bj (E:Env) (b:aB) (S:SS) (Q:bF→SS→Prop):Prop where
 h: ∀σ,S.On σ→oS E (.loop b) σ fun e σ'=> ∃S',S'.On σ'∧Q e S'
structure KD (E:Env) (it nx ne id:Nat) (kT kO:List Nat) (h0 b l:aB) (S:SS) (Q:bF→SS→Prop):Prop where
 h: ∀σ,S.On σ→oS E (.keys it nx ne id kT kO h0 b l) σ fun e σ'=> ∃S',S'.On σ'∧Q e S'
structure FC (E:Env) (x:bg) (ps:List Nat) (a b:aB) (S:SS) (Q:bF→SS→Prop):Prop where
 h: ∀σ,S.On σ→oS E (.pf x ps a b) σ fun e σ'=> ∃S',S'.On σ'∧Q e S'
def qK (E:Env):aB→SS→(bF→SS→Prop)→Prop
 | .skip,S,Q=>Q .normal S
 | .region ops,S,Q=>IH E ops S (Q .normal)
 | .drawn ops,S,Q=>II E ops S fun fs S'=>bU (QT (ops.map (·.pre)) [] [] fs=true) (Q .normal S')
 | .seq a b,S,Q=>qK E a S (thenS Q fun S'=>qK E b S' Q)
 | .cond c a b,S,Q=>match c with
   | .tmp t=> (match lk S.T t with
     | some (.bool c)=>Br c (qK E a S Q) (qK E b S Q)
     | _=>False)
   | .const (.bool c)=>Br c (qK E a S Q) (qK E b S Q)
   | _=>False
 | .block id b,S,Q=>qK E b S (IJ id Q)
 | .loop b,S,Q=>bj E b S Q
 | .exit id,S,Q=>Q (.exit id) S
 | .ret,S,Q=>Q .ret S
 | .scope b,S,Q=>qK E b S Q
 | .bad,_,_=>False
 | .pf x ps a b,S,Q=>FC E x ps a b S Q
 | .keys it nx ne id kT kO h0 b l,S,Q=>KD E it nx ne id kT kO h0 b l S Q
theorem di: ∀ {c:aB} {S:SS} {Q:bF→SS→Prop} {σ:St},qK E c S Q→S.On σ→oS E c σ fun e σ'=> ∃S',S'.On σ'∧Q e S'
 | .skip,S,Q,σ,h,ho=>by rw[tu];exact⟨S,ho,h⟩
 | .region ops,S,Q,σ,h,ho=>by rw[nF];exact sk h ho
 | .drawn ops,S,Q,σ,h,ho=>by
   refine BT ?_
   have h1:=sm h ho
   refine tC h1 ?_
   rintro fs σ' ⟨S',h2,h3,h4⟩
   exact⟨h3,S',h2,h4⟩
 | .seq a b,S,Q,σ,h,ho=>by
   rw[xG]
   refine lp (di (c:=a) h ho) ?_
   rintro e σ' ⟨S',h1,h2⟩
   cases e with
   | normal=>exact di (c:=b) h2 h1
   | exit id=>exact⟨S',h1,h2⟩
   | ret=>exact⟨S',h1,h2⟩
 | .cond c a b,S,Q,σ,h,ho=>by
   rw[tA]
   simp only[qK] at h
   cases c with
   | tmp t=>
     simp only at h
     split at h
     · rename_i c hc
       rw[jZ,ho.1 t _ hc]
       cases c with
       | true=>exact di (c:=a) (h.1 rfl) ho
       | false=>exact di (c:=b) (h.2 rfl) ho
     · exact h.elim
   | const v=>
     cases v
     case bool c=>
       rw[jO]
       cases c with
       | true=>exact di (c:=a) (h.1 rfl) ho
       | false=>exact di (c:=b) (h.2 rfl) ho
     all_goals exact h.elim
 | .block id b,S,Q,σ,h,ho=>by
   rw[qC]
   refine lp (di (c:=b) h ho) ?_
   rintro e σ' ⟨S',h1,h2⟩
   cases e with
   | normal=>exact⟨S',h1,h2⟩
   | ret=>exact⟨S',h1,h2⟩
   | exit kj=>
     simp only[IJ] at h2
     simp only[yi]
     cases hb:Nat.beq kj id with
     | true=>
       have:=Nat.eq_of_beq_eq_true hb
       simp only[hb,cond_true] at h2
       rw[if_pos this];exact⟨S',h1,h2⟩
     | false=>
       have:kj≠id:=Nat.ne_of_beq_eq_false hb
       simp only[hb,cond_false] at h2
       rw[if_neg this];exact⟨S',h1,h2⟩
 | .loop b,S,Q,σ,h,ho=>h.h σ ho
 | .exit id,S,Q,σ,h,ho=>by rw[tw];exact⟨S,ho,h⟩
 | .ret,S,Q,σ,h,ho=>by rw[xF];exact⟨S,ho,h⟩
 | .scope b,S,Q,σ,h,ho=>by rw[qB];exact di (c:=b) h ho
 | .pf ..,S,Q,σ,h,ho=>h.h σ ho
 | .keys ..,S,Q,σ,h,ho=>h.h σ ho
 | .bad,_,_,_,h,_=>h.elim
theorem afw {x:V}:bb [x] 0 1=[x]:=rfl
def B3 {α:Type}:List (Nat×α)→List (Nat×α)→Prop
 | [],_=>True
 | p::l,m=> (match lk m p.1 with
   | some x=>x=p.2
   | none=>False)∧B3 l m
def SS.Sub (S S':SS):Prop:=B3 S.T S'.T∧B3 S.O S'.O
theorem B3.lk {α:Type}: ∀ {l m:List (Nat×α)},B3 l m→ ∀ {n x},lk l n=some x→lk m n=some x
 | [],_,_,n,x,h=>by simp[AM.lk] at h
 | p::l,m,h,n,x,hx=>by
   rw[nM] at hx
   by_cases e:p.1=n
   · rw[if_pos e] at hx
     injection hx with hx
     have:=h.1
     subst e
     split at this
     · rename_i y hy;rw[hy,this,hx]
     · exact this.elim
   · rw[if_neg e] at hx
     exact B3.lk h.2 hx
theorem SS.Sub.on {S S':SS} (h:S.Sub S') {σ:St} (ho:S'.On σ):S.On σ:=
 ⟨fun t v hv=>ho.1 t v (h.1.lk hv),fun r o hr=>ho.2 r o (h.2.lk hr)⟩
def Zm (Q:bF→SS→Prop) (I:Nat→SS→Prop) (k:Nat):bF→SS→Prop
 | .normal,S=> ∃j,j<k∧ ∃S',S'.Sub S∧I j S'
 | .exit id,S=>Q (.exit id) S
 | .ret,S=>Q .ret S
theorem bj.of {b:aB} {Q:bF→SS→Prop} (I:Nat→SS→Prop) (hI: ∀k S,I k S→qK E b S (Zm Q I k)) {k:Nat} {S0 S:SS} (hs:S0.Sub S) (h0:I k S0):bj E b S Q:=by
 refine⟨fun σ ho=> ?_⟩
 refine Dm (fun k σ=> ∃S,S.On σ∧I k S) ?_ k σ ⟨S0,hs.on ho,h0⟩
 rintro k σ ⟨S,hS,hi⟩
 refine lp (di (hI k S hi) hS) ?_
 rintro e σ' ⟨S',h1,h2⟩
 cases e with
 | normal=>
   obtain⟨j,hj,Sn,h3,h4⟩:=h2
   exact⟨j,hj,Sn,h3.on h1,h4⟩
 | exit id=>exact⟨S',h1,h2⟩
 | ret=>exact⟨S',h1,h2⟩
theorem ee: ∀ {a:bR} {S:SS} {Q Q':KK},eR E a S Q→(∀v S' r w,Q v S' r w→Q' v S' r w)→eR E a S Q'
 | .done v,_,_,_,h,k=>k _ _ _ _ h
 | .fail,_,_,_,h,_=>h
 | .oR t f,S,Q,Q',h,k=>by
   simp only[eR] at h ⊢
   split
   · rename_i v hv
     rw[hv] at h
     exact ee h fun _ _ _ _ h=>k _ _ _ _ h
   · rename_i hv;rw[hv] at h;exact h
 | .cr t f,S,Q,Q',h,k=>by
   simp only[eR] at h ⊢
   split
   · rename_i v hv
     rw[hv] at h
     exact ee h fun _ _ _ _ h=>k _ _ _ _ h
   · rename_i hv;rw[hv] at h;exact h
 | .bW t o f,⟨T,O⟩,Q,Q',h,k=>by
   simp only[eR] at h ⊢
   exact ee h fun _ _ _ _ h=>k _ _ _ _ h
 | .mV t f,S,Q,Q',h,k=>by
   simp only[eR] at h ⊢
   exact fun g=>ee (h g) fun _ _ _ _ h=>k _ _ _ _ h
 | .call f as c,S,Q,Q',h,k=>by
   simp only[eR] at h ⊢
   obtain⟨res,h1,h2⟩:=h
   exact⟨res,h1,ee h2 k⟩
 | .cq p c,S,Q,Q',h,k=> ⟨h.1,ee h.2 k⟩
 | .ex α p c,S,Q,Q',h,k=>by
   obtain⟨x,h1,h2⟩:=h
   exact⟨x,h1,ee h2 k⟩
 | .ite b x y,S,Q,Q',h,k=> ⟨fun hb=>ee (h.1 hb) k,fun hb=>ee (h.2 hb) k⟩
 | .Zl a,S,Q,Q',h,k=> ⟨fun σ ho=>pj (h.h σ ho) fun v σ' r w ⟨S',h1,h2⟩=> ⟨S',h1,k _ _ _ _ h2⟩⟩
 | .alt x y,S,Q,Q',h,k=>by
   rcases h with h| h
   · exact .inl (ee h k)
   · exact .inr (ee h k)
 | .all f,S,Q,Q',h,k=>fun n=>ee (h n) k
theorem vC: ∀ {os:List cF} {S:SS} {Q Q':SS→Prop},IH E os S Q→(∀S',Q S'→Q' S')→IH E os S Q'
 | [],_,_,_,h,k=>k _ h
 | o::os,_,_,_,h,k=>ee h fun _ ⟨T,O⟩ _ _ h=>by
   cases hd:o.dst with
   | none=>simp only[hd] at h ⊢;exact vC h k
   | some d=>simp only[hd] at h ⊢;exact vC h k
theorem vD: ∀ {os:List cF} {S:SS} {Q Q':List fK→SS→Prop},II E os S Q→(∀fs S',Q fs S'→Q' fs S')→II E os S Q'
 | [],_,_,_,h,k=>k _ _ h
 | o::os,_,_,_,h,k=>ee h fun _ ⟨T,O⟩ _ _ h=>by
   cases hd:o.dst with
   | none=>simp only[hd] at h ⊢;exact vD h fun _ _ h=>k _ _ h
   | some d=>simp only[hd] at h ⊢;exact vD h fun _ _ h=>k _ _ h
theorem ja: ∀ {c:aB} {S:SS} {Q Q':bF→SS→Prop},qK E c S Q→(∀e S',Q e S'→Q' e S')→qK E c S Q'
 | .skip,_,_,_,h,k=>k _ _ h
 | .region _,_,_,_,h,k=>vC h fun _ h=>k _ _ h
 | .drawn _,_,_,_,h,k=>vD h fun _ _ h=> ⟨h.1,k _ _ h.2⟩
 | .seq a b,_,Q,Q',h,k=>ja (c:=a) h fun e S' h'=>by
   cases e with
   | normal=>exact ja (c:=b) h' k
   | exit id=>exact k _ _ h'
   | ret=>exact k _ _ h'
 | .cond c a b,S,Q,Q',h,k=>by
   simp only[qK] at h ⊢
   cases c with
   | tmp t=>
     simp only at h ⊢
     split at h
     · exact⟨fun hb=>ja (c:=a) (h.1 hb) k,fun hb=>ja (c:=b) (h.2 hb) k⟩
     · exact h.elim
   | const v=>
     cases v
     case bool c=>exact⟨fun hb=>ja (c:=a) (h.1 hb) k,fun hb=>ja (c:=b) (h.2 hb) k⟩
     all_goals exact h.elim
 | .block id b,_,Q,Q',h,k=>ja (c:=b) h fun e S' h'=>by
   cases e with
   | normal=>exact k _ _ h'
   | ret=>exact k _ _ h'
   | exit kj=>
     simp only[IJ] at h' ⊢
     cases hb:Nat.beq kj id with
     | true=>simp only[hb,cond_true] at h' ⊢;exact k _ _ h'
     | false=>simp only[hb,cond_false] at h' ⊢;exact k _ _ h'
 | .loop b,_,_,_,h,k=> ⟨fun σ ho=>lp (h.h σ ho) fun e σ' ⟨S',h1,h2⟩=> ⟨S',h1,k _ _ h2⟩⟩
 | .exit _,_,_,_,h,k=>k _ _ h
 | .ret,_,_,_,h,k=>k _ _ h
 | .scope b,_,_,_,h,k=>ja (c:=b) h k
 | .pf ..,_,_,_,h,k=> ⟨fun σ ho=>lp (h.h σ ho) fun e σ' ⟨S',h1,h2⟩=> ⟨S',h1,k _ _ h2⟩⟩
 | .keys ..,_,_,_,h,k=> ⟨fun σ ho=>lp (h.h σ ho) fun e σ' ⟨S',h1,h2⟩=> ⟨S',h1,k _ _ h2⟩⟩
 | .bad,_,_,_,h,_=>h
inductive bk {α:Type} (Sh:α→SS) (P:α→Prop) (μ:α→Nat) (a:α) (S:SS):Prop
 | mk (a':α) (h1:μ a'<μ a) (h2:P a') (h3: (Sh a').Sub S)
def pA {α:Type} (Q:bF→SS→Prop) (Sh:α→SS) (P:α→Prop) (μ:α→Nat) (a:α):bF→SS→Prop
 | .normal,S=>bk Sh P μ a S
 | .exit id,S=>Q (.exit id) S
 | .ret,S=>Q .ret S
theorem bj.by {α:Type} {b:aB} {Q:bF→SS→Prop} {S:SS} (Sh:α→SS) (P:α→Prop) (μ:α→Nat) (a0:α) (hs: (Sh a0).Sub S) (h0:P a0)
   (step: ∀a,P a→qK E b (Sh a) (pA Q Sh P μ a)):bj E b S Q:=by
 refine bj.of (fun k S=> ∃a,k=μ a∧P a∧S=Sh a) ?_ hs ⟨a0,rfl,h0,rfl⟩
 rintro k S ⟨a,rfl,hp,rfl⟩
 refine ja (step a hp) fun e S' h=> ?_
 cases e with
 | normal=>
   obtain⟨a',h1,h2,h3⟩:=h
   exact⟨_,h1,_,h3,a',rfl,h2,rfl⟩
 | exit id=>exact h
 | ret=>exact h
def Zn (K:SS→Prop):bF→SS→Prop
 | .normal,S=>K S
 | _,_=>False
def Du (S:SS):List Nat→List V→SS
 | p::ps,x::xs=>Du (S.put (some p) x) ps xs
 | _,_=>S
theorem Dv: ∀ {ps:List Nat} {x:List V} {S:SS} {T:Nat→V} {O:Nat→Obj},S.On ⟨T,O⟩→(Du S ps x).On ⟨pB T ps x,O⟩
 | [],x,S,T,O,h=>by simpa [Du,pB] using h
 | p::ps,[],S,T,O,h=>by simpa [Du,pB] using h
 | p::ps,x::xs,S,T,O,h=>Dv (ps:=ps) (x:=xs) (h.put (some p) x)
inductive afx {α:Type} (Oh:α→List (Nat×Obj)) (P:α→Prop) (O:List (Nat×Obj)):Prop
 | mk (a:α) (h1:P a) (h2:B3 (Oh a) O)
def afy {α:Type} (Q:bF→SS→Prop) (T:List (Nat×V)) (Oh:α→List (Nat×Obj)) (P:α→Prop):bF→SS→Prop
 | .normal,S=>afx Oh P S.O
 | .exit id,S=>Q (.exit id) ⟨T,S.O⟩
 | .ret,S=>Q .ret ⟨T,S.O⟩
theorem FC.by {α:Type} {fx:bg} {ps:List Nat} {ac b:aB} {S:SS} {Q:bF→SS→Prop} {g:Nat} {caps:List V} (xs:List (List V)) (hf:match fx with| .tmp t=>lk S.T t=some (.fn g caps) | .const v=>v= .fn g caps) (hi:E.iter g caps=some xs) (hl: ∀x ∈ xs,x.length=ps.length)
  (Oh:α→List (Nat×Obj)) (P:Nat→α→Prop) (a0:α) (h0:B3 (Oh a0) S.O) (hp:P 0 a0)
  (step: ∀ (k:Nat) x a,xs[k]? =some x→P k a→qK E ac (Du ⟨S.T,Oh a⟩ ps x) (Zn fun S1=>qK E b S1 (afy Q S.T Oh (P (k+1)))))
  (fin: ∀a,P xs.length a→Q .normal ⟨S.T,Oh a⟩):FC E fx ps ac b S Q:=by
 refine⟨fun σ ho=> ?_⟩
 have Zo: ∀ {l:List (Nat×Obj)} {σ:St} {m:List (Nat×Obj)},B3 l m→(∀r o,lk m r=some o→σ.O r=o)→ ∀r o,lk l r=some o→σ.O r=o:=fun {l σ m} hs hm=>by
  have h2: (⟨[],m⟩:SS).On σ:=⟨fun t v h=>by simp[lk] at h,hm⟩
  exact(SS.Sub.on (S:=⟨[],l⟩) (S':=⟨[],m⟩) ⟨trivial,hs⟩ h2).2
 have run: ∀ (rest:List (List V)) (k:Nat) (a:α) (O:Nat→Obj),xs.drop k=rest→P k a→(∀r o,lk (Oh a) r=some o→O r=o)→k≤xs.length→ ∃n e σ',tL (exec E n) ps ac b σ.T rest O=some (e,σ')∧ ∃S',S'.On σ'∧Q e S':=by
  intro rest
  induction rest with
  | nil=>
    intro k a O hd fS hO Nw
    have hk:xs.length≤k:=by
      have:=congrArg List.length hd
      simp at this;omega
    have:k=xs.length:=by omega
    subst this
    exact⟨0,.normal,⟨σ.T,O⟩,rfl,⟨S.T,Oh a⟩,⟨ho.1,hO⟩,fin a fS⟩
  | cons x rest ih=>
    intro k a O hd fS hO Nw
    have hk:k<xs.length:=by
      rcases Nat.lt_or_ge k xs.length with h| h
      · exact h
      · rw[List.drop_of_length_le h] at hd;simp at hd
    rw[List.drop_eq_getElem_cons hk] at hd
    injection hd with hx hd
    have hgx:xs[k]? =some x:=by rw[List.getElem?_eq_getElem hk,hx]
    obtain⟨n1,e1,σ1,h1,S1,h2,h3⟩:=di (step k x a hgx fS) (Dv (x:=x) (ps:=ps) (S:=⟨S.T,Oh a⟩) (T:=σ.T) (O:=O) ⟨ho.1,hO⟩)
    cases e1 with
    | exit id=>exact h3.elim
    | ret=>exact h3.elim
    | normal=>
      obtain⟨n2,e2,σ2,k1,S2,k2,k3⟩:=di h3 h2
      cases e2 with
      | normal=>
        obtain⟨a',q1,q2⟩:=k3
        obtain⟨n3,e,σ',l1,l2⟩:=ih (k+1) a' σ2.O hd q1 (Zo (σ:=σ2) q2 k2.2) (by omega)
        refine⟨max n1 (max n2 n3),e,σ',?_,l2⟩
        have m1:=dr (E:=E) (Nat.le_max_left n1 (max n2 n3)) _ _ _ h1
        have m2:=dr (E:=E) (Nat.le_trans (Nat.le_max_left n2 n3) (Nat.le_max_right n1 _)) _ _ _ k1
        have m3:=vj (fun c σ x h=>dr (E:=E) (Nat.le_trans (Nat.le_max_right n2 n3) (Nat.le_max_right n1 _)) c σ x h) l1
        simp only[tL,m1,m2,m3]
      | exit id=>
        refine⟨max n1 n2,.exit id,⟨σ.T,σ2.O⟩,?_,⟨S.T,S2.O⟩,⟨ho.1,k2.2⟩,k3⟩
        have m1:=dr (E:=E) (Nat.le_max_left n1 n2) _ _ _ h1
        have m2:=dr (E:=E) (Nat.le_max_right n1 n2) _ _ _ k1
        simp only[tL,m1,m2]
      | ret=>
        refine⟨max n1 n2,.ret,⟨σ.T,σ2.O⟩,?_,⟨S.T,S2.O⟩,⟨ho.1,k2.2⟩,k3⟩
        have m1:=dr (E:=E) (Nat.le_max_left n1 n2) _ _ _ h1
        have m2:=dr (E:=E) (Nat.le_max_right n1 n2) _ _ _ k1
        simp only[tL,m1,m2]
 obtain⟨n,e,σ',h1,h2⟩:=run xs 0 a0 σ.O (by simp) hp (Zo (σ:=σ) h0 ho.2) (Nat.zero_le _)
 refine⟨n+1,e,σ',?_,h2⟩
 have So:bM σ fx= .fn g caps:=by
  cases fx with
  | tmp t=>exact ho.1 t _ hf
  | const v=>exact hf
 have en:xs.all (fun x=>Nat.beq x.length ps.length)=true:=by
  rw[List.all_eq_true];intro x hx;rw[Nat.beq_eq];exact hl x hx
 simp only[exec,aT,So,hi,en,if_true,h1]
def KE (K:SS→Prop):bF→SS→Prop
 | .normal,S=>K S
 | _,_=>False
def Zp (id:Nat) (K:SS→Prop):bF→SS→Prop
 | .exit kj,S=>bU (kj=id) (K S)
 | _,_=>False
theorem FD {α:Type}: ∀ {l:List (Nat×α)} {n:Nat} {v:α},lk l n=some v→(n,v) ∈ l
 | [],n,v,h=>by simp[lk] at h
 | (k,u)::l,n,v,h=>by
   rw[nM] at h
   split at h
   · rename_i e
     simp only at e
     subst e
     injection h with h;subst h;simp
   · exact List.mem_cons_of_mem _ (FD h)
theorem KD.by {it nx ne id:Nat} {kT kO:List Nat} {h0 b l:aB} {Q:bF→SS→Prop} {S:SS} {r g:Nat} {arr:Bool} {es:List V} (Sh:List V→SS) (Sf:SS)
   (hT:lk S.T it=some (.it r g)) (hO:lk S.O r=some ⟨g,0,arr,false,some [.mlit es]⟩) (xo: (Sh []).Sub ⟨S.T,(r,⟨g,0,false,false,none⟩)::S.O⟩)
   (NU: ∀d,lk (Sh d).T it=some (.it r g)) (hg: ∀d,∃o,lk (Sh d).O r=some o∧o.gen=g) (bX: ∀e ∈ es,∃k v,e= .tuple [k,v])
   (step: ∀d k v rest,(d++ .tuple [k,v]::rest).Perm es→qK E h0 (SS.put (Sh d) (some nx) (.tuple [.bool true,k,v])) (KE fun S1=> (lk S1.T it=some (.it r g)∧ ∃o,lk S1.O r=some o∧o.gen=g)∧qK E b (SS.put S1 (some ne) (.tuple [k,v])) (KE fun S'=> (Sh (d++[.tuple [k,v]])).Sub S')))
   (last: ∀d,d.Perm es→qK E h0 (SS.put (Sh d) (some nx) (.tuple [.bool false])) (Zp id fun S'=>qK E l S' (KE fun Sn=>Sf.Sub Sn)))
   (QX:kT.all (fun t=> (lk Sf.T t).isSome)=true) (QY:kO.all (fun t=> (lk Sf.O t).isSome)=true) (fT:Sf.T.all (fun p=>kT.contains p.1)=true) (fO:Sf.O.all (fun p=>kO.contains p.1)=true)
   (hQ:Q .normal Sf):KD E it nx ne id kT kO h0 b l S Q:=by
 refine⟨fun σ ho=> ?_⟩
 have afz: (Sh []).On ⟨σ.T,eI σ.O r ⟨g,0,false,false,none⟩⟩:=by
   refine xo.on ⟨fun t v hv=>ho.1 t v hv,fun x o hx=> ?_⟩
   rw[nM] at hx
   show eI σ.O r _ x=o
   unfold eI
   by_cases e:r=x
   · simp only[e,if_true,Option.some.injEq] at hx ⊢;exact hx
   · rw[if_neg e] at hx;rw[if_neg (Ne.symm e)];exact ho.2 x o hx
 have QZ: ∀d (τ:St),(Sh d).On τ→xp it r g τ=true:=fun d τ hτ=>by
   obtain⟨o,h1,h2⟩:=hg d
   unfold xp
   rw[hτ.1 _ _ (NU d),hτ.2 _ _ h1]
   simp[h2]
 have run: ∀ (rest d:List V) (τ:St),(d++rest).Perm es→(Sh d).On τ→ ∃n σp,runK (exec E n) it r g nx ne id h0 b l rest τ=some σp∧Sf.On σp:=by
   intro rest
   induction rest with
   | nil=>
     intro d τ hp hτ
     obtain⟨n1,e,τ1,h1,S1,h2,h3⟩:=di (last d (by simpa using hp)) (hτ.put (some nx) (.tuple [.bool false]))
     cases e with
     | normal=>exact h3.elim
     | ret=>exact h3.elim
     | exit kj=>
       obtain⟨rfl,h3⟩:=h3
       obtain⟨n2,e2,τ2,k1,S2,k2,k3⟩:=di h3 h2
       cases e2 with
       | exit kj=>exact k3.elim
       | ret=>exact k3.elim
       | normal=>
         refine⟨max n1 n2,τ2,?_,SS.Sub.on k3 k2⟩
         have m1:=dr (E:=E) (Nat.le_max_left n1 n2) _ _ _ h1
         have m2:=dr (E:=E) (Nat.le_max_right n1 n2) _ _ _ k1
         simp only[runK,QZ d τ hτ,if_true,m1,m2]
   | cons x rest ih=>
     intro d τ hp hτ
     obtain⟨k,v,rfl⟩:=bX x (hp.mem_iff.1 (by simp))
     obtain⟨n1,e,τ1,h1,S1,h2,h3⟩:=di (step d k v rest hp) (hτ.put (some nx) (.tuple [.bool true,k,v]))
     cases e with
     | exit kj=>exact h3.elim
     | ret=>exact h3.elim
     | normal=>
       obtain⟨⟨t1,o1,t2,t3⟩,h3⟩:=h3
       have afA:xp it r g τ1=true:=by
         unfold xp
         rw[h2.1 _ _ t1,h2.2 _ _ t2]
         simp[t3]
       obtain⟨n3,e3,τ3,l1,S3,l2,l3⟩:=di h3 (h2.put (some ne) (.tuple [k,v]))
       cases e3 with
       | exit kj=>exact l3.elim
       | ret=>exact l3.elim
       | normal=>
         obtain⟨n2,σp,k1,k2⟩:=ih (d++[.tuple [k,v]]) τ3 (by simpa using hp) (SS.Sub.on l3 l2)
         refine⟨max n1 (max n3 n2),σp,?_,k2⟩
         have m1:=dr (E:=E) (Nat.le_max_left n1 (max n3 n2)) _ _ _ h1
         have m3:=dr (E:=E) (Nat.le_trans (Nat.le_max_left n3 n2) (Nat.le_max_right n1 _)) _ _ _ l1
         have m2:=qA (fun c σ x h=>dr (E:=E) (Nat.le_trans (Nat.le_max_right n3 n2) (Nat.le_max_right n1 _)) c σ x h) k1
         simp only[runK,QZ d τ hτ,afA,if_true,m1,m3,m2]
 obtain⟨n,ys,h1,h2,h3⟩:=yA (f:=fun n p=>runK (exec E n) it r g nx ne id h0 b l p ⟨σ.T,eI σ.O r ⟨g,0,false,false,none⟩⟩) (P:=fun σp=>Sf.On σp)
   (fun n m p y NV h=>qA (fun c σ x h=>dr (E:=E) NV c σ x h) h) (l:=perms es) fun p hp=>run p [] _ (by simpa using wy hp) afz
 have cu:perms es≠[]:=fun e=>by have:=pC (List.Perm.refl es);rw[e] at this;simp at this
 match ys,h2,h3,h1 with
 | [],h2,_,_=>exact absurd (List.length_eq_zero_iff.1 h2.symm) cu
 | σ1::σs,_,h3,h1=>
   have hT':σ.T it= .it r g:=ho.1 _ _ hT
   have hO':=ho.2 _ _ hO
   have Sp:σs.all (tM kT kO σ1)=true:=by
     rw[List.all_eq_true]
     intro τ hτ
     have o1:=h3 σ1 (by simp)
     have o2:=h3 τ (by simp[hτ])
     simp only[tM,Bool.and_eq_true,List.all_eq_true] at QX QY ⊢
     refine⟨fun t ht=> ?_,fun x hx=> ?_⟩
     · obtain⟨v,hv⟩:=Option.isSome_iff_exists.1 (QX t ht)
       rw[o1.1 t v hv,o2.1 t v hv];exact V.lD v
     · obtain⟨v,hv⟩:=Option.isSome_iff_exists.1 (QY x hx)
       rw[o1.2 x v hv,o2.2 x v hv];exact Obj.lD v
   refine⟨n+1,.normal,forget kT kO σ1 σs,?_,Sf,?_,hQ⟩
   · simp only[exec,aT,hT',hO',and_self,if_true,h1,Sp]
   · have o1:=h3 σ1 (by simp)
     refine⟨fun t v hv=> ?_,fun x o hx=> ?_⟩
     · have:=List.all_eq_true.1 fT _ (FD hv)
       simp only[forget,this,if_true]
       exact o1.1 t v hv
     · have:=List.all_eq_true.1 fO _ (FD hx)
       simp only[forget,this,if_true]
       exact o1.2 x o hx
theorem Q0 (i:Nat) (h:i< 4611686018427387904):V.int .i64 (IntKind.i64.wrap ((i:Int)+1))=V.int .i64 ((i+1:Nat):Int):=by
 rw[wrap64 (by omega) (by omega)];rfl
def IK ( S:SS):List sf→(List V→Prop)→Prop
 | [],k=>k []
 | .tmp t::rs,k=> (match lk S.T t with
   | some v=>IK S rs fun vs=>k (v::vs)
   | none=>False)
 | .cell t agg sz::rs,k=> (match lk S.T t with
   | some (.ptr r g idx off)=> (match lk S.O r with
     | some ⟨cV,_,_,_,jm⟩=> (match jm with
       | some [e]=> (match idx with
         | 0=>bU (cV=g) (match yo agg off sz e with
           | some v=>IK S rs fun vs=>k (v::vs)
           | none=>False)
         | _+1=>False)
       | _=>False)
     | none=>False)
   | _=>False)
theorem sn {  S:SS} {σ:St} (ho:S.On σ): ∀ {rs:List sf} {k:List V→Prop},IK S rs k→ ∃vs,dL σ rs=some vs∧k vs
 | [],k,h=> ⟨[],rfl,h⟩
 | .tmp t::rs,k,h=>by
   simp only[IK] at h
   split at h
   · rename_i v hv
     obtain⟨vs,h1,h2⟩:=sn ho h
     exact⟨v::vs,by simp[dL,fV,h1,ho.1 t v hv],h2⟩
   · exact h.elim
 | .cell t agg sz::rs,k,h=>by
   simp only[IK] at h
   split at h
   · rename_i r g idx off hv
     split at h
     · rename_i cV gY dZ iX jm hr
       split at h
       · rename_i e
         split at h
         · obtain⟨hg,h⟩:=h
           split at h
           · rename_i v hp
             obtain⟨vs,h1,h2⟩:=sn ho h
             refine⟨v::vs,?_,h2⟩
             simp[dL,fV,h1,ho.1 t _ hv,ho.2 r _ hr,hg,lA hp]
           · exact h.elim
         · exact h.elim
       · exact h.elim
     · exact h.elim
   · exact h.elim
def wz (S:SS):Nat→List V→(List (Nat×List V)→Prop)→Prop
 | _,[],k=>k []
 | i,.msl sz _ _ _::as,k| i,.mptr sz _ _ _::as,k=> (match lk S.O i with
   | some ⟨cV,gY,_,iX,jm⟩=> (match jm with
     | some es=>bU (iX=false∧gY=sz∧V.ae es=true) (wz S (i+1) as fun outs=>k ((cV,es)::outs))
     | none=>False)
   | none=>False)
 | i,_::as,k=>wz S (i+1) as k
theorem mm {S:SS} {σ:St} (ho:S.On σ): ∀ {as:List V} {i:Nat} {k:List (Nat×List V)→Prop},wz S i as k→ ∃outs,cA σ.O i as=some outs∧k outs
 | [],i,k,h=> ⟨[],by simp[cA],by simpa [wz] using h⟩
 | a::as,i,k,h=>by
   cases a
   case msl sz es' off len=>
    simp only[wz] at h
    split at h
    · rename_i cV gY dZ iX jm hr
      split at h
      ·  rename_i es
         obtain⟨hc,h⟩:=h
         obtain⟨outs,h1,h2⟩:=mm ho h
         refine⟨_,?_,h2⟩
         simp[cA,ho.2 i _ hr,h1,hc]
      · exact h.elim
    · exact h.elim
   case mptr sz es' off len=>
    simp only[wz] at h
    split at h
    · rename_i cV gY dZ iX jm hr
      split at h
      ·  rename_i es
         obtain⟨hc,h⟩:=h
         obtain⟨outs,h1,h2⟩:=mm ho h
         refine⟨_,?_,h2⟩
         simp[cA,ho.2 i _ hr,h1,hc]
      · exact h.elim
    · exact h.elim
   all_goals
    simp only[wz] at h
    obtain⟨outs,h1,h2⟩:=mm ho h
    exact⟨outs,by simp[cA,h1],h2⟩
def tN ( n:Nat) (S:SS) (c:V) (k:V→List Nat→Prop):Prop:=
 match c with
 | .sl r g off len=> (match lk S.O r with
   | some ⟨cV,gY,dZ,iX,jm⟩=> (match jm with
     | some es=>bU (cV=g∧dZ=true) (bD (fun ys=>bb es off len=ys) fun ys=>bU (off+len≤es.length∧V.ae ys=true)
        (bif Nat.blt r n then k (.sl r g off len) [r] else bif iX then k (.lit gY ys) [] else k (.own gY ys) [r]))
     | none=>False)
   | none=>False)
 | c=>bU (V.aj c=true) (k c [])
theorem pD {n:Nat} {S:SS} {σ:St} (ho:S.On σ) {c:V} {k:V→List Nat→Prop} (h:tN n S c k): ∃v rs,cp n σ c=some (v,rs)∧k v rs:=by
 unfold tN at h
 split at h
 · rename_i r g off len
   split at h
   · rename_i cV gY dZ iX jm hr
     split at h
     · rename_i es
       obtain⟨⟨h1,h2⟩,ys,rfl,⟨h3,h4⟩,h⟩:=h
       have e1:=ho.2 r _ hr
       simp only[cp,e1,h1,h2,h3,h4,and_self,if_true]
       cases hb:Nat.blt r n with
       | true=>
         have:r<n:=by simpa [Nat.blt_eq] using hb
         simp only[hb,cond_true] at h
         rw[if_pos this];exact⟨_,_,rfl,h⟩
       | false=>
         have: ¬r<n:=by intro hc;rw[←Nat.blt_eq,hb] at hc;simp at hc
         simp only[hb,cond_false] at h
         rw[if_neg this]
         cases hz:iX with
         | true=>simp only[hz,cond_true] at h;exact⟨_,_,by simp[e1,hz],h⟩
         | false=>simp only[hz,cond_false] at h;exact⟨_,_,by simp[e1,hz],h⟩
     · exact h.elim
   · exact h.elim
 · rename_i hn
   refine⟨c,[],?_,h.rest⟩
   have h:=h.side
   unfold cp
   cases c
   case sl=>exact absurd rfl (hn _ _ _ _)
   all_goals simp_all
def qL (n:Nat) (S:SS):List V→(List V→List Nat→Prop)→Prop
 | [],k=>k [] []
 | c::cs,k=>tN n S c fun c' r=>qL n S cs fun dC rs=>k (c'::dC) (r++rs)
theorem kr {n:Nat} {S:SS} {σ:St} (ho:S.On σ): ∀ {cs:List V} {k:List V→List Nat→Prop},qL n S cs k→ ∃v rs,bV n σ cs=some (v,rs)∧k v rs
 | [],_,h=> ⟨[],[],rfl,h⟩
 | c::cs,k,h=>by
   obtain⟨v,r,h1,h2⟩:=pD ho h
   obtain⟨vs,rs,h3,h4⟩:=kr ho h2
   exact⟨_,_,by simp[bV,h1,h3],h4⟩
def KF (n:Nat) (S:SS) (v:V) (k:V→List Nat→Prop):Prop:=
 bif V.aj v then k v [] else
 match v with
 | .agg cs=>qL n S cs fun dC rs=>k (.agg dC) rs
 | .fn f cs=>qL n S cs fun dC rs=>bU (V.ae dC=true) (k (.fn f dC) rs)
 | v=>tN n S v k
theorem Dw {n:Nat} {S:SS} {σ:St} (ho:S.On σ) {v:V} {k:V→List Nat→Prop} (h:KF n S v k): ∃v' rs,dI n σ v=some (v',rs)∧k v' rs:=by
 unfold KF at h
 unfold dI
 cases hp:V.aj v with
 | true=>simp only[hp,cond_true] at h;exact⟨v,[],by simp,h⟩
 | false=>
   simp only[hp,cond_false] at h
   simp only[Bool.false_eq_true,if_false]
   split at h
   · obtain⟨dC,rs,h1,h2⟩:=kr ho h
     exact⟨_,_,by simp[h1],h2⟩
   · obtain⟨dC,rs,h1,h2,h3⟩:=kr ho h
     exact⟨_,_,by simp[h1,h2],h3⟩
   · obtain⟨v',rs,h1,h2⟩:=pD ho h
     exact⟨v',rs,by cases v<;>simp_all,h2⟩
def FE (n:Nat) (S:SS):List V→(List V→List Nat→Prop)→Prop
 | [],k=>k [] []
 | c::cs,k=>KF n S c fun c' r=>FE n S cs fun dC rs=>k (c'::dC) (r++rs)
theorem tO {n:Nat} {S:SS} {σ:St} (ho:S.On σ): ∀ {cs:List V} {k:List V→List Nat→Prop},FE n S cs k→ ∃v rs,da n σ cs=some (v,rs)∧k v rs
 | [],_,h=> ⟨[],[],rfl,h⟩
 | c::cs,k,h=>by
   obtain⟨v,r,h1,h2⟩:=Dw ho h
   obtain⟨vs,rs,h3,h4⟩:=tO ho h2
   exact⟨_,_,by simp[da,h1,h3],h4⟩
def B4 (rs:List sf) (args:List V) (S:SS) (R:iE→Prop):Prop:=
 IK S rs fun vs=>wz S 0 args fun outs=>FE args.length S vs fun vs' refs=>bU (distinct refs=true) (match vs' with
  | [v]=>R ⟨v,outs⟩
  | vs'=>R ⟨.tuple vs',outs⟩)
def IL (rs:List sf) (args:List V) (R:iE→Prop):bF→SS→Prop
 | .exit _,_=>False
 | .normal,S=>B4 rs args S R
 | .ret,S=>B4 rs args S R
theorem nP {rs:List sf} {args:List V} {S:SS} {R:iE→Prop} {σ:St} (ho:S.On σ) (h:B4 rs args S R): ∃res,leave ⟨0,0,[],rs,.skip,none⟩ args σ=some res∧R res:=by
 obtain⟨vs,h1,h⟩:=sn ho h
 obtain⟨outs,h2,h⟩:=mm ho h
 obtain⟨vs',refs,h3,h4,h⟩:=tO ho h
 simp only[leave,h1,h2,h3]
 split at h
 · rename_i v
   exact⟨_,by simp[h4],h⟩
 · rename_i hn
   refine⟨⟨.tuple vs',outs⟩,?_,h⟩
   split
   · rename_i v rs' heq
     injection heq with e1;injection e1 with e1 e2
     exact absurd e1 (by intro hh;exact hn v hh)
   · rename_i vs2 rs2 heq
     injection heq with e1;injection e1 with e1 e2
     subst e1 e2
     simp[h4]
   · rename_i heq;simp at heq
def mH:Nat→List V→List (Nat×V)
 | _,[]=> []
 | i,.msl _ _ off len::as=> (i,.sl i 0 off len)::mH (i+1) as
 | i,.mptr _ _ idx off::as=> (i,.ptr i 0 idx off)::mH (i+1) as
 | i,v::as=> (i,v)::mH (i+1) as
def mI:Nat→List V→List (Nat×Obj)
 | _,[]=> []
 | i,.msl sz es _ _::as=> (i,{gen:=0,sz,arr:=true,fz:=false,es:=some es})::mI (i+1) as
 | i,.mptr sz es _ _::as=> (i,{gen:=0,sz,arr:=false,fz:=false,es:=some es})::mI (i+1) as
 | i,_::as=>mI (i+1) as
def yB (args:List V):SS:=⟨mH 0 args,mI 0 args⟩
theorem AH: ∀ (as pre:List V) (t:Nat) (v:V),lk (mH pre.length as) t=some v→(enter (pre++as)).T t=v
 | [],_,_,_,h=>by simp[mH,lk] at h
 | a::as,pre,t,v,h=>by
   have ih:=AH as (pre++[a]) t v
   simp only[List.length_append,List.length_cons,List.length_nil,Nat.zero_add,List.append_assoc,List.singleton_append] at ih
   have key: ∀x,lk ((pre.length,x)::mH (pre.length+1) as) t=some v→(enter (pre++a::as)).T pre.length=x→(enter (pre++a::as)).T t=v:=by
    intro x hx hv
    rw[nM] at hx
    by_cases e:pre.length=t
    · simp only[e,if_true,Option.some.injEq] at hx;rw[←hx,←hv,e]
    · simp only[e,if_false] at hx;exact ih hx
   have hg: (pre++a::as)[pre.length]? =some a:=by simp
   cases a
   case msl=>exact key _ (by simpa [mH] using h) (by simp[enter,hg])
   case mptr=>exact key _ (by simpa [mH] using h) (by simp[enter,hg])
   all_goals exact key _ (by simpa [mH] using h) (by simp[enter,hg])
theorem AI: ∀ (as pre:List V) (t:Nat) (v:Obj),lk (mI pre.length as) t=some v→(enter (pre++as)).O t=v
 | [],_,_,_,h=>by simp[mI,lk] at h
 | a::as,pre,t,v,h=>by
   have ih:=AI as (pre++[a]) t v
   simp only[List.length_append,List.length_cons,List.length_nil,Nat.zero_add,List.append_assoc,List.singleton_append] at ih
   have key: ∀x,lk ((pre.length,x)::mI (pre.length+1) as) t=some v→(enter (pre++a::as)).O pre.length=x→(enter (pre++a::as)).O t=v:=by
    intro x hx hv
    rw[nM] at hx
    by_cases e:pre.length=t
    · simp only[e,if_true,Option.some.injEq] at hx;rw[←hx,←hv,e]
    · simp only[e,if_false] at hx;exact ih hx
   have hg: (pre++a::as)[pre.length]? =some a:=by simp
   cases a
   case msl=>exact key _ (by simpa [mI] using h) (by simp[enter,hg])
   case mptr=>exact key _ (by simpa [mI] using h) (by simp[enter,hg])
   all_goals exact ih (by simpa [mI] using h)
theorem AJ (args:List V): (yB args).On (enter args):=
 ⟨fun t v h=>AH args [] t v h,fun r o h=>AI args [] r o h⟩
theorem Ev.jC {f:Nat} {af:aU} {args:List V} {R:iE→Prop} (hf:E.fn f=some af) (hx:E.ext f args=none) (hl:args.length=af.nparams)
  (h:qK E af.body (yB args) (IL af.results args R)) (ht:af.tag=none:=by rfl) (hh:E.hyb f=none:=by rfl): ∃res,Ev E f args res∧R res:=by
 obtain⟨n,e,σ',h1,S',h2,h3⟩:=di h (AJ args)
 have key: ∀ {e},exec E n af.body (enter args)=some (e,σ')→(e= .normal∨e= .ret)→B4 af.results args S' R→ ∃res,Ev E f args res∧R res:=by
  intro e h1 he hl3
  obtain⟨res,h4,h5⟩:=nP h2 hl3
  refine⟨res,⟨n,?_⟩,h5⟩
  unfold call eH
  rw[hh];simp only[kp]
  rw[hx];simp only[hf,hl,if_true,ht,h1]
  rcases he with rfl| rfl<;>exact h4
 cases e with
 | normal=>exact key h1 (.inl rfl) h3
 | ret=>exact key h1 (.inr rfl) h3
 | exit id=>exact h3.elim
theorem Ev.aG {f:Nat} {af:aU} {args:List V} {res:iE} (hf:E.fn f=some af) (hx:E.ext f args=none) (hl:args.length=af.nparams)
  (h:qK E af.body (yB args) (IL af.results args (· =res))) (ht:af.tag=none:=by rfl) (hh:E.hyb f=none:=by rfl):Ev E f args res:=by
 obtain⟨r,h1,rfl⟩:=Ev.jC hf hx hl h ht hh
 exact h1
end
end Go.AM
