/-
  Texts of the proof, joined by program: AmWp, AmSim, AmSortL, AmTab, AmHyb, AmS, AmS2, AmS3, AmS4, AmS5. Own work.
-/
import Derived.Test.YtgkdgapmmkkcaaaGreatDefs
import Derived.Attr
set_option linter.unusedSimpArgs false
set_option linter.unusedVariables false
namespace Go.AM
def D4 (C C':bb):Prop:= ∀f as r,C f as=some r→C' f as=some r
theorem Act.gY {C C':bb} (h:D4 C C'): ∀ (a:Act) (σ:St) (r:V×St),a.run C σ=some r→a.run C' σ=some r
 | .done v,σ,r,e=>by simpa [Act.run] using e
 | .fail,σ,r,e=>by simp[Act.run] at e
 | .lE t k,σ,r,e=>by simp only[Act.run] at e ⊢;exact Act.gY h _ _ _ e
 | .bR t k,σ,r,e=>by simp only[Act.run] at e ⊢;exact Act.gY h _ _ _ e
 | .bC t o k,σ,r,e=>by simp only[Act.run] at e ⊢;exact Act.gY h _ _ _ e
 | .call f as k,σ,r,e=>by
   simp only[Act.run] at e ⊢
   split at e
   · rename_i res lK
     rw[h f as res lK]
     exact Act.gY h _ _ _ e
   · simp at e
theorem Act.gr {C C':bb} (h:D4 C C'): ∀ (a:Act) (σ:St) (r:V×St),a.run C σ=some r→a.dB C' σ=a.dB C σ
 | .done v,σ,r,e=>by simp[Act.dB]
 | .fail,σ,r,e=>by simp[Act.run] at e
 | .lE t k,σ,r,e=>by simp only[Act.run] at e;simp only[Act.dB];rw[Act.gr h _ _ _ e]
 | .bR t k,σ,r,e=>by simp only[Act.run] at e;simp only[Act.dB];rw[Act.gr h _ _ _ e]
 | .bC t o k,σ,r,e=>by simp only[Act.run] at e;simp only[Act.dB];rw[Act.gr h _ _ _ e]
 | .call f as k,σ,r,e=>by
   simp only[Act.run] at e
   simp only[Act.dB]
   split at e
   · rename_i res lK
     rw[h f as res lK]
     simp only
     exact Act.gr h _ _ _ e
   · simp at e
theorem r6 {E:Env} {C C':bb} (h:D4 C C') {o:bq} {σ σ':St} (e:ep E C o σ=some σ'):ep E C' o σ=some σ':=by
 unfold ep at e ⊢
 split at e
 · rename_i v σ1 hr
   rw[Act.gY h _ _ _ hr];exact e
 · simp at e
theorem lL {E:Env} {C C':bb} (h:D4 C C'): ∀ {os:List bq} {σ σ':St},ig E C os σ=some σ'→ig E C' os σ=some σ'
 | [],_,_,e=>by simpa [ig] using e
 | o::os,_,_,e=>by
   simp only[ig] at e ⊢
   split at e
   · rename_i σ1 h1
     rw[r6 h h1]
     exact lL h e
   · simp at e
theorem tP {E:Env} {C C':bb} (h:D4 C C') {o:bq} {σ σ':St} (e:ep E C o σ=some σ'):cL E C' o σ=cL E C o σ:=by
 unfold ep at e
 split at e
 · rename_i v σ1 hr
   simp only[cL,Act.gr h _ _ _ hr]
 · simp at e
theorem jO {E:Env} {C C':bb} (h:D4 C C'): ∀ {os:List bq} {bV:List dZ} {before:List (List Nat)} {σ σ':St},dw E C os bV before σ=some σ'→dw E C' os bV before σ=some σ'
 | [],_,_,_,_,e=>by simpa [dw] using e
 | o::os,bV,before,σ,_,e=>by
   simp only[dw] at e ⊢
   split at e
   · rename_i hc
     split at e
     · rename_i σ1 h1
       rw[tP h h1,r6 h h1,if_pos hc]
       exact jO h e
     · simp at e
   · simp at e
def L1 (r r':al→St→Option (aY×St)):Prop:= ∀c σ x,r c σ=some x→r' c σ=some x
theorem qF {E:Env} {r r':al→St→Option (aY×St)} (h:L1 r r'):D4 (jP E r) (jP E r'):=by
 intro f as res e
 unfold jP at e ⊢
 split at e
 · exact e
 · split at e
   · split at e
     · rename_i hl
       rw[if_pos hl]
       split at e
       · split at e
         · rename_i σ hx;rw[h _ _ _ hx];exact e
         · rename_i σ hx;rw[h _ _ _ hx];exact e
         · simp at e
       · split at e
         · rename_i hp
           rw[if_pos hp]
           split at e
           · rename_i σ hx;rw[h _ _ _ hx];exact e
           · rename_i σ hx;rw[h _ _ _ hx];exact e
           · simp at e
         · simp at e
     · simp at e
   · simp at e
theorem nu {E:Env} {r r':al→St→Option (aY×St)} (h:L1 r r'):D4 (dL E r) (dL E r'):=by
 intro f as res e
 unfold dL at e ⊢
 split at e
 · rename_i g hg
   exact E.mono f g hg _ _ (qF h) _ _ e
 · exact qF h _ _ _ e
theorem tQ {E:Env} {C C':bb} (hC:D4 C C') {r r':al→St→Option (aY×St)} (h:L1 r r'):L1 (aE E C r) (aE E C' r'):=by
 intro c σ x e
 cases c with
 | skip=>simpa [aE] using e
 | region ops=>
   simp only[aE,Option.map_eq_some_iff] at e ⊢
   obtain⟨σ1,h1,h2⟩:=e
   exact⟨σ1,lL hC h1,h2⟩
 | drawn ops=>
   simp only[aE,Option.map_eq_some_iff] at e ⊢
   obtain⟨σ1,h1,h2⟩:=e
   exact⟨σ1,jO hC h1,h2⟩
 | seq a b=>
   simp only[aE] at e ⊢
   split at e
   · rename_i σ1 h1;rw[h _ _ _ h1];exact h _ _ _ e
   · rename_i hn
     rw[h _ _ _ e]
     rcases x with⟨ex,σ1⟩
     cases ex with
     | normal=>exact absurd e (by simpa using hn σ1)
     | _=>rfl
 | cond c a b=>
   simp only[aE] at e ⊢
   split at e
   · exact h _ _ _ e
   · exact h _ _ _ e
   · simp at e
 | block id b=>
   simp only[aE] at e ⊢
   split at e
   · rename_i jv σ1 h1;rw[h _ _ _ h1];exact e
   · rename_i hn
     rw[h _ _ _ e]
     rcases x with⟨ex,σ1⟩
     cases ex with
     | exit jv=>exact absurd e (by simpa using hn jv σ1)
     | _=>rfl
 | loop b=>
   simp only[aE] at e ⊢
   split at e
   · rename_i σ1 h1;rw[h _ _ _ h1];exact h _ _ _ e
   · rename_i hn
     rw[h _ _ _ e]
     rcases x with⟨ex,σ1⟩
     cases ex with
     | normal=>exact absurd e (by simpa using hn σ1)
     | _=>rfl
 | exit id=>simpa [aE] using e
 | ret=>simpa [aE] using e
 | scope b=>simp only[aE] at e ⊢;exact h _ _ _ e
 | bad=>simp[aE] at e
 | nU fx ps a b=>
   simp only[aE] at e ⊢
   split at e
   · rename_i g caps hg
     try simp only[hg]
     split at e
     · rename_i xs zx
       try simp only[zx]
       split at e
       · rename_i hc
         try rw[if_pos hc]
         exact pT h e
       · simp at e
     · simp at e
   · simp at e
 | keys it nx ne id kT kO hd b l=>
   simp only[aE] at e ⊢
   split at e
   · rename_i ri g hT
     try simp only[hT]
     split at e
     · rename_i es hO
       try simp only[hO]
       split at e
       · rename_i hc
         try rw[if_pos hc]
         split at e
         · rename_i σ1 σs hr
           rw[kq (fun p y hy=>mL h hy) hr]
           exact e
         · simp at e
       · simp at e
     · simp at e
   · simp at e
theorem uo {E:Env}: ∀n,L1 (exec E n) (exec E (n+1))
 | 0=>by intro c σ x e;simp[exec] at e
 | n+1=>by
   have ih:=uo (E:=E) n
   have:=tQ (E:=E) (nu (E:=E) ih) ih
   intro c σ x e
   simp only[exec] at e ⊢
   exact this _ _ _ e
theorem ct {E:Env} {n m:Nat} (h:n≤m):L1 (exec E n) (exec E m):=by
 induction h with
 | refl=>exact fun _ _ _ e=>e
 | step _ ih=>exact fun c σ x e=>uo _ _ _ _ (ih c σ x e)
theorem fy {E:Env} {n m:Nat} (h:n≤m):D4 (call E n) (call E m):=nu (ct h)
def Ev (E:Env) (f:Nat) (args:List V) (res:fh):Prop:= ∃n,call E n f args=some res
def St.bC (σ:St) (r:Nat) (o:Obj):St:={σ with O:=cW σ.O r o}
inductive Tg {α β:Type} (a:α) (b:β):Type
 | mk
def pU (E:Env) (a:Act) (σ:St) (Q:V→St→Prop) (_:Tg σ Q:= .mk):Prop:= ∃n v σ',a.run (call E n) σ=some (v,σ')∧Q v σ'
def Ed (E:Env) (os:List bq) (σ:St) (Q:St→Prop) (_:Tg os (σ,Q):= .mk):Prop:= ∃n σ',ig E (call E n) os σ=some σ'∧Q σ'
def lF (E:Env) (c:al) (σ:St) (Q:aY→St→Prop) (_:Tg c (σ,Q):= .mk):Prop:= ∃n e σ',exec E n c σ=some (e,σ')∧Q e σ'
def oD (E:Env) (a:Act) (σ:St) (Q:V→St→List Loc→List Loc→Prop) (_:Tg σ Q:= .mk):Prop:= ∃n v σ',a.run (call E n) σ=some (v,σ')∧Q v σ' (a.dB (call E n) σ).reads (a.dB (call E n) σ).writes
def Gi (E:Env) (bV:List dZ) (before:List (List Nat)) (os:List bq) (σ:St) (Q:St→Prop):Prop:= ∃n σ',dw E (call E n) os bV before σ=some σ'∧Q σ'
section
variable {E:Env} {σ:St}
theorem lM {v:V} {Q:V→St→Prop}:pU E (.done v) σ Q=Q v σ:=by
 simp only[pU,Act.run,eq_iff_iff]
 constructor
 · rintro⟨_,_,_,h,q⟩;injection h with h;injection h with h1 h2;subst h1 h2;exact q
 · exact fun q=> ⟨0,_,_,rfl,q⟩
theorem oF {Q:V→St→Prop}:pU E .fail σ Q=False:=by
 simp[pU,Act.run]
theorem r7 {t:Nat} {k:V→Act} {Q:V→St→Prop}:pU E (.lE t k) σ Q=pU E (k (σ.T t)) σ Q:=by
 simp[pU,Act.run]
theorem jZ {t:Nat} {k:Obj→Act} {Q:V→St→Prop}:pU E (.bR t k) σ Q=pU E (k (σ.O t)) σ Q:=by
 simp[pU,Act.run]
theorem lN {t:Nat} {o:Obj} {k:Act} {Q:V→St→Prop}:pU E (.bC t o k) σ Q=pU E k (σ.bC t o) Q:=by
 simp[pU,Act.run,St.bC]
theorem ve {c:Prop} [Decidable c] {a b:Act} {Q:V→St→Prop}:pU E (if c then a else b) σ Q=if c then pU E a σ Q else pU E b σ Q:=by
 split<;>rfl
theorem r8 {v:Option V} {Q:V→St→Prop}:pU E (cM v) σ Q=match v with| some v=>Q v σ| none=>False:=by
 cases v<;>simp[cM,lM,oF]
theorem rO {Q:St→Prop}:Ed E [] σ Q=Q σ:=by simp[Ed,ig]
theorem oG {o:bq} {os:List bq} {Q:St→Prop}:Ed E (o::os) σ Q=pU E (dr E o) σ fun v σ'=>Ed E os (σ'.put o.dst v) Q:=by
 simp only[Ed,pU,ig,ep,eq_iff_iff]
 constructor
 · rintro⟨n,σ2,h,q⟩
   split at h
   · rename_i σ1 h1
     split at h1
     · rename_i v σ0 h0
       injection h1 with h1;subst h1
       exact⟨n,v,σ0,h0,n,σ2,h,q⟩
     · simp at h1
   · simp at h
 · rintro⟨n,v,σ0,h0,m,σ2,h,q⟩
   refine⟨max n m,σ2,?_,q⟩
   rw[Act.gY (fy (Nat.le_max_left n m)) _ _ _ h0]
   exact lL (fy (Nat.le_max_right n m)) h
theorem j0 {v:V} {Q:V→St→List Loc→List Loc→Prop}:oD E (.done v) σ Q=Q v σ [] []:=by
 simp only[oD,Act.run,Act.dB,eq_iff_iff]
 constructor
 · rintro⟨_,_,_,h,q⟩;injection h with h;injection h with h1 h2;subst h1 h2;exact q
 · exact fun q=> ⟨0,_,_,rfl,q⟩
theorem oH {Q:V→St→List Loc→List Loc→Prop}:oD E .fail σ Q=False:=by
 simp[oD,Act.run]
theorem oI {t:Nat} {k:V→Act} {Q:V→St→List Loc→List Loc→Prop}:oD E (.lE t k) σ Q=oD E (k (σ.T t)) σ fun v σ' r w=>Q v σ' (.t t::r) w:=by
 simp[oD,Act.run,Act.dB]
theorem lO {t:Nat} {k:Obj→Act} {Q:V→St→List Loc→List Loc→Prop}:oD E (.bR t k) σ Q=oD E (k (σ.O t)) σ fun v σ' r w=>Q v σ' (.o t::r) w:=by
 simp[oD,Act.run,Act.dB]
theorem oJ {t:Nat} {o:Obj} {k:Act} {Q:V→St→List Loc→List Loc→Prop}:oD E (.bC t o k) σ Q=oD E k (σ.bC t o) fun v σ' r w=>Q v σ' r (.o t::w):=by
 simp[oD,Act.run,Act.dB,St.bC]
theorem B5 {f:Nat} {as:List V} {k:fh→Act} {Q:V→St→List Loc→List Loc→Prop}:oD E (.call f as k) σ Q= ∃res,Ev E f as res∧oD E (k res) σ Q:=by
 simp only[oD,eq_iff_iff]
 constructor
 · rintro⟨n,v,σ',h,q⟩
   simp only[Act.run,Act.dB] at h q
   split at h
   · rename_i res hr
     simp only[hr] at q
     exact⟨res,⟨n,hr⟩,n,v,σ',h,q⟩
   · simp at h
 · rintro⟨res,⟨n,hn⟩,m,v,σ',h,q⟩
   have e1:=fy (E:=E) (Nat.le_max_left n m) _ _ _ hn
   have e2:=Act.gY (fy (E:=E) (Nat.le_max_right n m)) _ _ _ h
   have e3:=Act.gr (fy (E:=E) (Nat.le_max_right n m)) _ _ _ h
   refine⟨max n m,v,σ',?_,?_⟩
   · simp only[Act.run,e1];exact e2
   · simp only[Act.dB,e1,e3];exact q
theorem vf {c:Prop} [Decidable c] {a b:Act} {Q:V→St→List Loc→List Loc→Prop}:oD E (if c then a else b) σ Q=if c then oD E a σ Q else oD E b σ Q:=by
 split<;>rfl
theorem r9 {v:Option V} {Q:V→St→List Loc→List Loc→Prop}:oD E (cM v) σ Q=match v with| some v=>Q v σ [] [] | none=>False:=by
 cases v<;>simp[cM,j0,oH]
theorem Ee {bV:List dZ} {before:List (List Nat)} {Q:St→Prop}:Gi E bV before [] σ Q=Q σ:=by simp[Gi,dw]
theorem B6 {bV:List dZ} {before:List (List Nat)} {o:bq} {os:List bq} {Q:St→Prop}:
   Gi E bV before (o::os) σ Q=oD E (dr E o) σ fun v σ' r w=>
     (fits bV (closure before o.pre) ⟨r,(match o.dst with| some d=> [.t d] | none=> [])++w⟩ bV.length &&o.pre.all (· <bV.length))=true∧
     Gi E (bV++[⟨r,(match o.dst with| some d=> [.t d] | none=> [])++w⟩]) (before++[closure before o.pre]) os (σ'.put o.dst v) Q:=by
 have key: ∀n,dw E (call E n) (o::os) bV before σ=if (fits bV (closure before o.pre) (cL E (call E n) o σ) bV.length &&o.pre.all (· <bV.length))=true then
     (match ep E (call E n) o σ with| some σ'=>dw E (call E n) os (bV++[cL E (call E n) o σ]) (before++[closure before o.pre]) σ'| none=>none) else none:=fun n=>rfl
 have Mw: ∀n v σ0,(dr E o).run (call E n) σ=some (v,σ0)→ep E (call E n) o σ=some (σ0.put o.dst v):=fun n v σ0 h=>by simp only[ep,h]
 simp only[Gi,oD,eq_iff_iff]
 constructor
 · rintro⟨n,σ2,h,q⟩
   rw[key n] at h
   by_cases hc: (fits bV (closure before o.pre) (cL E (call E n) o σ) bV.length &&o.pre.all (· <bV.length))=true
   · rw[if_pos hc] at h
     cases h0: (dr E o).run (call E n) σ with
     | none=>simp[ep,h0] at h
     | some p=>
       obtain⟨v,σ0⟩:=p
       rw[Mw n v σ0 h0] at h
       exact⟨n,v,σ0,h0,hc,n,σ2,h,q⟩
   · rw[if_neg hc] at h;simp at h
 · rintro⟨n,v,σ0,h0,hc,m,σ2,h,q⟩
   refine⟨max n m,σ2,?_,q⟩
   have e3:cL E (call E (max n m)) o σ=cL E (call E n) o σ:=by
     simp only[cL,Act.gr (fy (E:=E) (Nat.le_max_left n m)) _ _ _ h0]
   have xY: (fits bV (closure before o.pre) (cL E (call E n) o σ) bV.length &&o.pre.all (· <bV.length))=true:=hc
   rw[key,e3,if_pos xY,Mw _ v σ0 (Act.gY (fy (Nat.le_max_left n m)) _ _ _ h0)]
   exact jO (fy (Nat.le_max_right n m)) h
def andThen (Q:aY→St→Prop) (k:St→Prop) (_:Tg Q k:= .mk):aY→St→Prop
 | .normal,σ=>k σ
 | .exit id,σ=>Q (.exit id) σ
 | .ret,σ=>Q .ret σ
def sa (id:Nat) (Q:aY→St→Prop) (_:Tg id Q:= .mk):aY→St→Prop
 | .exit jv,σ=>if jv=id then Q .normal σ else Q (.exit jv) σ
 | .normal,σ=>Q .normal σ
 | .ret,σ=>Q .ret σ
theorem gZ {c:al} {Q Q':aY→St→Prop} (h:lF E c σ Q) (k: ∀e σ',Q e σ'→Q' e σ'):lF E c σ Q':=by
 obtain⟨n,e,σ',h1,h2⟩:=h
 exact⟨n,e,σ',h1,k _ _ h2⟩
theorem oK {Q:aY→St→Prop}:lF E .skip σ Q=Q .normal σ:=by
 simp only[lF,eq_iff_iff]
 constructor
 · rintro⟨n,e,σ',h,q⟩
   cases n<;>simp[exec,aE] at h
   obtain⟨rfl,rfl⟩:=h;exact q
 · exact fun q=> ⟨1,_,_,by simp[exec,aE],q⟩
theorem oL {id:Nat} {Q:aY→St→Prop}:lF E (.exit id) σ Q=Q (.exit id) σ:=by
 simp only[lF,eq_iff_iff]
 constructor
 · rintro⟨n,e,σ',h,q⟩
   cases n<;>simp[exec,aE] at h
   obtain⟨rfl,rfl⟩:=h;exact q
 · exact fun q=> ⟨1,_,_,by simp[exec,aE],q⟩
theorem rP {Q:aY→St→Prop}:lF E .ret σ Q=Q .ret σ:=by
 simp only[lF,eq_iff_iff]
 constructor
 · rintro⟨n,e,σ',h,q⟩
   cases n<;>simp[exec,aE] at h
   obtain⟨rfl,rfl⟩:=h;exact q
 · exact fun q=> ⟨1,_,_,by simp[exec,aE],q⟩
theorem mM {b:al} {Q:aY→St→Prop}:lF E (.scope b) σ Q=lF E b σ Q:=by
 simp only[lF,eq_iff_iff]
 constructor
 · rintro⟨n,e,σ',h,q⟩
   cases n with
   | zero=>simp[exec] at h
   | succ n=>simp only[exec,aE] at h;exact⟨n,e,σ',h,q⟩
 · rintro⟨n,e,σ',h,q⟩
   exact⟨n+1,e,σ',by simpa only[exec,aE] using h,q⟩
theorem kr {ops:List bq} {Q:aY→St→Prop}:lF E (.region ops) σ Q=Ed E ops σ (Q .normal):=by
 simp only[lF,Ed,eq_iff_iff]
 constructor
 · rintro⟨n,e,σ',h,q⟩
   cases n with
   | zero=>simp[exec] at h
   | succ n=>
     simp only[exec,aE,Option.map_eq_some_iff] at h
     obtain⟨σ1,h1,h2⟩:=h
     injection h2 with h2 h3
     subst h2 h3
     exact⟨n,_,h1,q⟩
 · rintro⟨n,σ',h,q⟩
   exact⟨n+1,_,σ',by simp only[exec,aE,Option.map_eq_some_iff];exact⟨σ',h,rfl⟩,q⟩
theorem As {ops:List bq} {Q:aY→St→Prop}:lF E (.drawn ops) σ Q=Gi E [] [] ops σ (Q .normal):=by
 simp only[lF,Gi,eq_iff_iff]
 constructor
 · rintro⟨n,e,σ',h,q⟩
   cases n with
   | zero=>simp[exec] at h
   | succ n=>
     simp only[exec,aE,Option.map_eq_some_iff] at h
     obtain⟨σ1,h1,h2⟩:=h
     injection h2 with h2 h3
     subst h2 h3
     exact⟨n,_,h1,q⟩
 · rintro⟨n,σ',h,q⟩
   exact⟨n+1,_,σ',by simp only[exec,aE,Option.map_eq_some_iff];exact⟨σ',h,rfl⟩,q⟩
theorem rQ {a b:al} {Q:aY→St→Prop}:lF E (.seq a b) σ Q=lF E a σ (andThen Q fun σ'=>lF E b σ' Q):=by
 simp only[lF,eq_iff_iff]
 constructor
 · rintro⟨n,e,σ',h,q⟩
   cases n with
   | zero=>simp[exec] at h
   | succ n=>
     simp only[exec,aE] at h
     split at h
     · rename_i σ1 h1
       exact⟨n,_,_,h1,n,e,σ',h,q⟩
     · rename_i hn
       refine⟨n,e,σ',h,?_⟩
       cases e with
       | normal=>exact absurd h (by simpa using hn σ')
       | exit id=>exact q
       | ret=>exact q
 · rintro⟨n,e,σ1,h,q⟩
   cases e with
   | normal=>
     obtain⟨m,e,σ',h',q⟩:=q
     refine⟨max n m+1,e,σ',?_,q⟩
     simp only[exec,aE,ct (Nat.le_max_left n m) _ _ _ h]
     exact ct (Nat.le_max_right n m) _ _ _ h'
   | exit id=>exact⟨n+1,_,_,by simp only[exec,aE,h],q⟩
   | ret=>exact⟨n+1,_,_,by simp only[exec,aE,h],q⟩
theorem oM {c:aP} {a b:al} {Q:aY→St→Prop}:lF E (.cond c a b) σ Q=match bc σ c with| .bool true=>lF E a σ Q| .bool false=>lF E b σ Q| _=>False:=by
 simp only[lF,eq_iff_iff]
 constructor
 · rintro⟨n,e,σ',h,q⟩
   cases n with
   | zero=>simp[exec] at h
   | succ n=>
     simp only[exec,aE] at h
     split at h
     · rename_i he;simp only[he];exact⟨n,e,σ',h,q⟩
     · rename_i he;simp only[he];exact⟨n,e,σ',h,q⟩
     · simp at h
 · intro h
   split at h
   · rename_i he
     obtain⟨n,e,σ',h,q⟩:=h
     exact⟨n+1,e,σ',by simp only[exec,aE,he];exact h,q⟩
   · rename_i he
     obtain⟨n,e,σ',h,q⟩:=h
     exact⟨n+1,e,σ',by simp only[exec,aE,he];exact h,q⟩
   · exact h.elim
theorem mN {id:Nat} {b:al} {Q:aY→St→Prop}:lF E (.block id b) σ Q=lF E b σ (sa id Q):=by
 simp only[lF,eq_iff_iff]
 constructor
 · rintro⟨n,e,σ',h,q⟩
   cases n with
   | zero=>simp[exec] at h
   | succ n=>
     simp only[exec,aE] at h
     split at h
     · rename_i jv σ1 h1
       refine⟨n,_,_,h1,?_⟩
       simp only[sa]
       split at h
       · rename_i hi
         simp only[Option.some.injEq,Prod.mk.injEq] at h
         obtain⟨rfl,rfl⟩:=h
         simp only[hi,if_true];exact q
       · rename_i hi
         simp only[Option.some.injEq,Prod.mk.injEq] at h
         obtain⟨rfl,rfl⟩:=h
         simp only[hi,if_false];exact q
     · rename_i hn
       refine⟨n,e,σ',h,?_⟩
       cases e with
       | exit jv=>exact absurd h (by simpa using hn jv σ')
       | normal=>exact q
       | ret=>exact q
 · rintro⟨n,e,σ1,h,q⟩
   cases e with
   | exit jv=>
     simp only[sa] at q
     by_cases hi:jv=id
     · simp only[hi,if_true] at q
       exact⟨n+1,_,_,by simp only[exec,aE,h,hi,if_true],q⟩
     · simp only[hi,if_false] at q
       exact⟨n+1,_,_,by simp only[exec,aE,h,hi,if_false],q⟩
   | normal=>exact⟨n+1,_,_,by simp only[exec,aE,h],q⟩
   | ret=>exact⟨n+1,_,_,by simp only[exec,aE,h],q⟩
theorem B7 {b:al} {Q:aY→St→Prop}:lF E (.loop b) σ Q=lF E b σ (andThen Q fun σ'=>lF E (.loop b) σ' Q):=by
 simp only[lF,eq_iff_iff]
 constructor
 · rintro⟨n,e,σ',h,q⟩
   cases n with
   | zero=>simp[exec] at h
   | succ n=>
     simp only[exec,aE] at h
     split at h
     · rename_i σ1 h1
       exact⟨n,_,_,h1,n,e,σ',h,q⟩
     · rename_i hn
       refine⟨n,e,σ',h,?_⟩
       cases e with
       | normal=>exact absurd h (by simpa using hn σ')
       | exit id=>exact q
       | ret=>exact q
 · rintro⟨n,e,σ1,h,q⟩
   cases e with
   | normal=>
     obtain⟨m,e,σ',h',q⟩:=q
     refine⟨max n m+1,e,σ',?_,q⟩
     simp only[exec,aE,ct (Nat.le_max_left n m) _ _ _ h]
     exact ct (Nat.le_max_right n m) _ _ _ h'
   | exit id=>exact⟨n+1,_,_,by simp only[exec,aE,h],q⟩
   | ret=>exact⟨n+1,_,_,by simp only[exec,aE,h],q⟩
theorem wo {b:al} {Q:aY→St→Prop} (I:Nat→St→Prop) (hI: ∀k σ,I k σ→lF E b σ (andThen Q fun σ'=> ∃j,j<k∧I j σ')):
   ∀ (k:Nat) (σ:St),I k σ→lF E (.loop b) σ Q:=by
 intro k
 induction k using Nat.strongRecOn with
 | _ k ih=>
   intro σ h
   rw[B7]
   refine gZ (hI k σ h) fun e σ' he=> ?_
   cases e with
   | normal=>obtain⟨j,hj,h'⟩:=he;exact ih j hj σ' h'
   | exit id=>exact he
   | ret=>exact he
def fin (rs:List oN) (args:List V) (res:fh):aY→St→Prop
 | .exit _,_=>False
 | .normal,σ=>leave ⟨0,0,[],rs,.skip,none⟩ args σ=some res
 | .ret,σ=>leave ⟨0,0,[],rs,.skip,none⟩ args σ=some res
theorem Ev.ext {f:Nat} {args:List V} {res:fh} (h:E.ext f args=some res) (hh:E.hyb f=none:=by rfl):Ev E f args res:=⟨0,by simp[call,dL,jP,h,hh]⟩
end
end Go.AM
namespace Go.AM
section
variable {E:Env} {σ:St}
def pV (E:Env):List bq→St→(List dZ→St→Prop)→Prop
 | [],σ,Q=>Q [] σ
 | o::os,σ,Q=>oD E (dr E o) σ fun v σ' r w=>pV E os (σ'.put o.dst v) fun fs σ''=>Q (⟨r,(match o.dst with| some d=> [.t d] | none=> [])++w⟩::fs) σ''
def Mx (E:Env) (os:List bq) (σ:St) (Q:List dZ→St→Prop) (_:Tg os (σ,Q):= .mk):Prop:=pV E os σ Q
def pW (d:Option Nat) (w:List Loc):List Loc:=match d with| some d=> .t d::w| none=>w
theorem rR {Q:List dZ→St→Prop}:Mx E [] σ Q=Q [] σ:=rfl
theorem oO {o:bq} {os:List bq} {Q:List dZ→St→Prop}:Mx E (o::os) σ Q=oD E (dr E o) σ fun v σ' r w=>Mx E os (σ'.put o.dst v) fun fs σ''=>Q (⟨r,pW o.dst w⟩::fs) σ'':=by
 have: ∀w,(match o.dst with| some d=> [Loc.t d] | none=> [])++w=pW o.dst w:=by intro w;cases o.dst<;>rfl
 have h2: (fun (v:V) (σ':St) (r w:List Loc)=>pV E os (σ'.put o.dst v) fun fs σ''=>Q (⟨r,(match o.dst with| some d=> [.t d] | none=> [])++w⟩::fs) σ'')=(fun v σ' r w=>pV E os (σ'.put o.dst v) fun fs σ''=>Q (⟨r,pW o.dst w⟩::fs) σ''):=by
  funext v σ' r w;rw[this]
 show oD E (dr E o) σ (fun (v:V) (σ':St) (r w:List Loc)=>pV E os (σ'.put o.dst v) fun fs σ''=>Q (⟨r,(match o.dst with| some d=> [.t d] | none=> [])++w⟩::fs) σ'')=_
 rw[h2];rfl
def Gj:List (List Nat)→List (List Nat)→List dZ→List dZ→Bool
 | [],_,_,_=>true
 | p::ps,before,bV,f::rest=> (fits bV (closure before p) f bV.length &&p.all (· <bV.length)) &&Gj ps (before++[closure before p]) (bV++[f]) rest
 | _::_,_,_,[]=>false
theorem lP {a:Act} {Q Q':V→St→List Loc→List Loc→Prop} (h:oD E a σ Q) (k: ∀v σ' r w,Q v σ' r w→Q' v σ' r w):oD E a σ Q':=by
 obtain⟨n,v,σ',h1,h2⟩:=h
 exact⟨n,v,σ',h1,k _ _ _ _ h2⟩
theorem oP: ∀ {os:List bq} {σ:St} {Q Q':List dZ→St→Prop},pV E os σ Q→(∀fs σ',Q fs σ'→Q' fs σ')→pV E os σ Q'
 | [],_,_,_,h,k=>k _ _ h
 | o::os,_,_,_,h,k=>by
   simp only[pV] at h ⊢
   exact lP h fun v σ' r w h'=>oP h' fun fs σ'' Yb=>k _ _ Yb
theorem B8 {Q:St→Prop}: ∀ {os:List bq} {σ:St} {bV:List dZ} {before:List (List Nat)},
   pV E os σ (fun fs σ'=>Gj (os.map (·.pre)) before bV fs=true∧Q σ')→Gi E bV before os σ Q
 | [],_,_,_,h=>by rw[Ee];exact h.2
 | o::os,σ,bV,before,h=>by
   rw[B6]
   simp only[pV,List.map_cons,Gj,Bool.and_eq_true] at h
   refine lP h fun v σ' r w h'=> ?_
   have h1:pV E os (σ'.put o.dst v) (fun fs σ''=> (fits bV (closure before o.pre) ⟨r,(match o.dst with| some d=> [.t d] | none=> [])++w⟩ bV.length &&o.pre.all (· <bV.length))=true):=
    oP h' fun fs σ'' hh=>by
      have:=hh.1
      simp only[List.map_cons,Gj,Bool.and_eq_true] at this
      simp only[Bool.and_eq_true];exact this.1
   have const: ∀ {os:List bq} {σ:St} {p:Prop},pV E os σ (fun _ _=>p)→p:=by
    intro os
    induction os with
    | nil=>intro σ p h;exact h
    | cons o os ih=>
      intro σ p h
      simp only[pV] at h
      obtain⟨n,v,σ',_,h2⟩:=h
      exact ih h2
   refine⟨const h1,B8 (oP h' fun fs σ'' hh=> ⟨by have:=hh.1;simp only[List.map_cons,Gj,Bool.and_eq_true] at this;exact this.2,hh.2⟩)⟩
theorem vg {ops:List bq} {Q:aY→St→Prop} (h:Mx E ops σ (fun fs σ'=>Gj (ops.map (·.pre)) [] [] fs=true∧Q .normal σ')):lF E (.drawn ops) σ Q:=by
 rw[As];exact B8 h
theorem B9 {d t:Nat} {v:V}: (σ.put (some d) v).T t=if t=d then v else σ.T t:=rfl
theorem Ca {d:Option Nat} {r:Nat} {v:V}: (σ.put d v).O r=σ.O r:=by cases d<;>rfl
theorem sb {v:V}:σ.put none v=σ:=rfl
theorem yi {r t:Nat} {o:Obj}: (σ.bC r o).T t=σ.T t:=rfl
theorem yj {r r':Nat} {o:Obj}: (σ.bC r o).O r'=if r'=r then o else σ.O r':=rfl
theorem jB {t:Nat}:bc σ (.tmp t)=σ.T t:=rfl
theorem gM {v:V}:bc σ (.const v)=v:=rfl
theorem gN: ∀ {cs:List V},V.aq cs=true→ ∀ {x:V},x ∈ cs→x.aC=true
 | [],_,x,h=>by simp at h
 | c::cs,h,x,hx=>by
   simp only[V.aq,Bool.and_eq_true] at h
   rcases List.mem_cons.1 hx with rfl| hx
   · exact h.1
   · exact gN h.2 hx
theorem nV: ∀ {cs:List V},(∀x ∈ cs,V.aC x=true)→V.aq cs=true
 | [],_=>rfl
 | c::cs,h=>by
   simp only[V.aq,Bool.and_eq_true]
   exact⟨h c (by simp),nV fun x hx=>h x (by simp[hx])⟩
theorem fu {args:List V} (h:V.aq args=true):enter args=⟨fun t=>args.getD t dp,fun _=>bD⟩:=by
 have key: ∀ (t:Nat) (a:V),args[t]? =some a→a.aC=true:=fun t a ht=>gN h (List.mem_of_getElem? ht)
 unfold enter
 congr 1
 · funext t
   cases ha:args[t]? with
   | none=>simp[List.getD,ha]
   | some a=>have:=key t a ha;simp only[List.getD,ha,Option.getD_some];cases a<;>simp_all[V.aC]
 · funext t
   cases ha:args[t]? with
   | none=>rfl
   | some a=>have:=key t a ha;cases a<;>simp_all[V.aC]
theorem iT {bF:Bool} {r:Nat} {gs:List (Nat×Nat×Nat)} {v:V} {k:V→Act} (h:v.aC=true):cg bF r gs v k=k v:=by
 simp[cg,h]
end
def vh (sz lim:Nat):List V→Option fh
 | [.nils]=>some ⟨.own sz [],[]⟩
 | [.lit sz' xs]=>if sz'=sz∧xs.length≤lim then some ⟨.own sz xs,[]⟩ else none
 | _=>none
def wq:List V→Option fh
 | [.float b]=>match FloatKind.f64.format.sqrt b with
   | some r=>some ⟨.float r,[]⟩
   | none=>none
 | _=>none
theorem se {v:V} {k:V→Act} (h:v.aC=true):qG v k=k v:=by
 cases v<;>simp_all[qG]
theorem fA {O:Nat→Obj}: ∀ {args:List V} {i:Nat},V.aq args=true→bP O i args=some []
 | [],_,_=>rfl
 | a::as,i,h=>by
   simp only[V.aq,Bool.and_eq_true] at h
   have:=fA (O:=O) (i:=i+1) h.2
   cases a<;>simp_all[bP,V.aC]
theorem ku {n:Nat} {σ:St} {v:V} (h:v.aC=true):cp n σ v=some (v,[]):=by
 simp[cp,h]
theorem pX {sz:Nat} {v:V} (h:v.aI=true):part false 0 sz v=some v:=by
 cases v<;>simp_all[part,V.aI]
def wu (sz:Nat) (xs:List V) (v:V):Prop:=v= .lit sz xs∨v= .nils∧xs=[]
theorem wu.pure {sz:Nat} {xs:List V} {v:V} (h:wu sz xs v):v.aC=true:=by
 rcases h with rfl| ⟨rfl,_⟩ <;>rfl
theorem wu.len {sz:Nat} {xs:List V} {v:V} (h:wu sz xs v):nj v=some (.int .i64 xs.length):=by
 rcases h with rfl| ⟨rfl,rfl⟩ <;>rfl
theorem wu.lit {sz:Nat} {xs:List V}:wu sz xs (.lit sz xs):= .inl rfl
theorem wu.aI {sz:Nat} {xs:List V} {v:V} (h:wu sz xs v):v.aI=true:=by
 rcases h with rfl| ⟨rfl,_⟩ <;>rfl
def gu (sz:Nat) (v i:V):Act:=
 match v,i with
 | .sl r g off len,.int _ n=> .bR r fun o=>if 0≤n∧n<len∧o.sz=sz∧o.gen=g then .done (.ptr r g (off+n.toNat) 0) else .fail
 | .lit sz' xs,.int _ n=>if 0≤n∧sz'=sz then match xs[n.toNat]? with
    | some e=> .done (.eptr e 0)
    | none=> .fail
   else .fail
 | .litk sz' xs,.int _ n=>if 0≤n∧sz'=sz∧0 <sz then match xs[n.toNat]? with
    | some e=> .done (.epk n.toNat sz e 0)
    | none=> .fail
   else .fail
 | _,_=> .fail
theorem gO {E:Env} {sz:Nat} {x i:aP}:ar E (.indexAddr sz x i)=ev x fun v=>ev i fun i=>gu sz v i:=rfl
def nW ( sz:Nat) (v:V) (l h m:Option V):Act:=
 match v with
 | .sl r g off len=> .bR r fun o=>match o.es with
   | some es=>if o.gen=g∧o.sz=sz then
      match bE 0 l,bE len h,m with
      | some l,some h,none=>if l≤h∧off+h≤es.length then .done (.sl r g (off+l) (h - l)) else .fail
      | some l,some h',some m=>match h,bE 0 (some m) with
        | some _,some m=>if l≤h'∧h'≤m∧off+m≤es.length then .done (if m=l then .nils else .any) else .fail
        | _,_=> .fail
      | _,_,_=> .fail
     else .fail
   | none=> .fail
 | v=>cM (iU sz v l h m)
theorem mO {E:Env} {sz:Nat} {x:aP} {lo hi mx:Option aP}:ar E (.slice sz x lo hi mx)=ev x fun v=>tJ lo fun l=>tJ hi fun h=>tJ mx fun m=>nW sz v l h m:=rfl
def sf (r sz lim:Nat) (s:V) (ys:List V):Act:=
 if ys.all (aN · sz) &&decide (0 <sz) then match s with
  | .nils=>if ys.isEmpty then .done .nils else if ys.length≤lim then
      .bR r fun o=> .bC r {gen:=o.gen+1,sz,arr:=true,fz:=false,es:=some ys} (.done (.sl r (o.gen+1) 0 ys.length)) else .fail
  | .lit sz' xs=>if ys.isEmpty then .done (.lit sz' xs) else .fail
  | .sl r' g off len=> .bR r' fun o=>match o.es with
    | some es=>if o.gen=g∧o.arr=true∧o.fz=false∧o.sz=sz∧off+len≤es.length∧len+ys.length≤lim then
        if off+len+ys.length≤es.length then
             .bC r' {o with es:=some (overwrite es (off+len) ys)} (.done (.sl r' g off (len+ys.length)))
        else
             .bC r' {o with gen:=g+1,es:=some (aH es off len++ys)} (.done (.sl r' (g+1) 0 (len+ys.length)))
      else .fail
    | none=> .fail
  | _=> .fail
  else .fail
theorem kx {E:Env} {r sz lim:Nat} {s x:aP}:ar E (.append r sz lim s x)=ev s fun s=>ev x fun x=>content sz x fun ys=>fK ys fun ys=>sf r sz lim s ys:=rfl
theorem pY {ys:List V} {k:List V→Act} (h:V.aq ys=true):fK ys k=k ys:=by simp[fK,h]
theorem Cb {r sz lim r' g off len:Nat} {ys:List V} (h:ys.all (aN · sz)=true) (h0:0 <sz):sf r sz lim (.sl r' g off len) ys= .bR r' fun o=>match o.es with
  | some es=>if o.gen=g∧o.arr=true∧o.fz=false∧o.sz=sz∧off+len≤es.length∧len+ys.length≤lim then
     if off+len+ys.length≤es.length then
      .bC r' {o with es:=some (overwrite es (off+len) ys)} (.done (.sl r' g off (len+ys.length)))
     else
      .bC r' {o with gen:=g+1,es:=some (aH es off len++ys)} (.done (.sl r' (g+1) 0 (len+ys.length)))
    else .fail
  | none=> .fail:=by
 simp only[sf]
 rw[h];simp[h0]
theorem ky {α:Type} (f:α→V) (l:List α) (a b:Nat):AM.aH (l.map f) a b=((l.drop a).take b).map f:=by
 simp[AM.aH,List.map_take,List.map_drop]
theorem kz {xs:List V} {n:Nat} (h:n=xs.length):AM.aH xs 0 n=xs:=by
 subst h;simp[AM.aH]
theorem oQ (a b:Int): (a==b)=decide (a=b):=by
 by_cases h:a=b
 · simp[h]
 · simp[h]
theorem vj (a b:Int): (a !=b)= !decide (a=b):=by simp[bne,oQ]
theorem wrap64 {n:Int} (h0: -9223372036854775808≤n) (h1:n≤9223372036854775807):IntKind.i64.wrap n=n:=by
 simp[IntKind.wrap,IntKind.bits,IntKind.signed]
 omega
attribute [go_sem] rQ kr oK oL rP mM mN oM oG rO oO rR dr gO mO kx ar.jC r7 jZ lN lM oF r8 ve oI lO oJ j0 oH r9 vf aN V.cX V.aC V.aq V.isScalar V.bn se fA ku iT pX B9 Ca yi yj sb pW bD andThen sa jB gM Cc dp fh.mk.injEq V.int.injEq V.tuple.injEq List.cons.injEq V.bool.injEq V.str.injEq V.agg.injEq List.getD_cons_zero List.getD_cons_succ List.getD_nil List.length_cons List.length_nil List.getElem?_cons_zero List.getElem?_cons_succ List.set_cons_zero List.set_cons_succ List.take_succ_cons List.take_zero List.drop_succ_cons List.drop_zero List.take_nil List.drop_nil List.cons_append List.nil_append List.append_nil Nat.zero_add Nat.add_zero BEq.rfl Bool.true_or Bool.or_true Bool.false_or Bool.or_false Bool.and_true Bool.true_and Bool.and_false Bool.false_and Bool.and_self Bool.or_self Bool.false_eq_true Bool.true_eq_false Bool.not_true Bool.not_false Nat.lt_add_one Nat.le_refl decide_true decide_false decide_eq_true_eq if_true if_false true_and and_true and_self false_and and_false Nat.sub_zero Option.some.injEq Nat.zero_lt_one Nat.lt_irrefl ne_eq not_true_eq_false not_false_eq_true V.cells.eq_1 V.cells.eq_2 V.isAgg.eq_1 V.isAgg.eq_2 V.aI.eq_1 V.aI.eq_2 V.aI.eq_3 V.aI.eq_4 V.aI.eq_5 V.aI.eq_6 V.aI.eq_7 V.isTuple.eq_1 V.isTuple.eq_2 AM.part.eq_1 AM.part.eq_2 AM.part.eq_3 AM.part.eq_4 AM.cV.eq_1 AM.cV.eq_2 AM.cV.eq_3 AM.cV.eq_4 nj.eq_1 nj.eq_2 nj.eq_3 nj.eq_4 bE.eq_1 bE.eq_2 bE.eq_3 eu.eq_1 eu.eq_2 content.eq_1 content.eq_2 content.eq_3 content.eq_4 content.eq_5 dm.eq_1 dm.eq_2 b8.eq_1 b8.eq_2 qG.eq_1 qG.eq_2 b5.eq_1 b5.eq_2 b5.eq_3 b5.eq_4 b5.eq_5 b5.eq_6 dx.eq_1 dx.eq_2 fK.eq_1 fK.go.eq_1 fK.go.eq_2 cg.eq_1 cg.eq_2 ed.eq_1 ed.eq_2 dy.eq_1 dy.eq_2 bT.eq_1 bT.eq_2 bT.eq_3 cq.eq_1 cq.eq_2 bH.eq_1 bH.eq_2 bx.eq_1 bx.eq_2 cp.eq_1 cp.eq_2 cp.eq_3 cb.eq_1 cb.eq_2 er.eq_1 er.eq_2 cO.eq_1 cO.eq_2 bP.eq_1 bP.eq_2 bP.eq_3 bP.eq_4 bY.eq_1 bY.eq_2 bY.eq_3 bY.eq_4 bY.eq_5 bY.eq_6 bY.eq_7 bY.eq_8 bY.eq_9 bY.eq_10 bY.eq_11 bY.eq_12 bY.eq_13 bY.eq_14 bY.eq_15 bY.eq_16 bY.eq_17 bY.eq_18 bY.eq_19 bY.eq_20 bY.eq_21 de.eq_1 de.eq_2 de.eq_3 de.eq_4 de.eq_5 de.eq_6 de.eq_7 yk.eq_1 yk.eq_2 yk.eq_3 yk.eq_4 min2.eq_1 min2.eq_2 max2.eq_1 max2.eq_2 gm.eq_1 gm.eq_2 fL.eq_1 fL.eq_2 tT.eq_1 tT.eq_2 tT.eq_3 tT.eq_4 eA.eq_1 eA.eq_2 eA.eq_3 eB.eq_1 eB.eq_2 dK.eq_1 dK.eq_2 ev.eq_1 ev.eq_2 uq.eq_1 uq.eq_2 tJ.eq_1 tJ.eq_2 gu.eq_1 gu.eq_2 gu.eq_3 cM.eq_1 cM.eq_2 leave.eq_1 distinct.eq_1 distinct.eq_2 fin.eq_1 fin.eq_2 fin.eq_3 ar.eq_1 ar.eq_2 ar.eq_3 ar.eq_4 ar.eq_5 ar.eq_6 ar.eq_7 ar.eq_8 ar.eq_9 ar.eq_10 ar.eq_11 ar.eq_12 ar.eq_13 ar.eq_14 ar.eq_15 ar.eq_16 ar.eq_17 ar.eq_18 ar.eq_19 ar.eq_20 ar.eq_21 ar.eq_23 ar.eq_24 ar.eq_26 ar.eq_27 ar.eq_28 ar.eq_29 ar.eq_30 ar.eq_31 ar.eq_32 ar.eq_34 ar.eq_35 ar.eq_36 ar.eq_37 ar.eq_38 nW.eq_1 apart cj.eq_1 cj.eq_2 cH.eq_1 cH.eq_2 cH.eq_3 eR.eq_1 eR.eq_2 List.map_nil List.map_cons List.all_nil List.all_cons List.contains_nil List.contains_cons iU.eq_1 iU.eq_2 Option.isSome_some Option.isSome_none Option.isNone_none Option.isNone_some oQ vj bne_self_eq_false Bool.bne_true Bool.bne_false Bool.true_bne Bool.false_bne kz List.isEmpty_cons List.isEmpty_nil eq_self List.replicate_succ List.replicate_zero pY Int.cast_ofNat_Int Int.toNat_zero Int.toNat_one Int.neg_ofNat_le_ofNat Int.natCast_nonneg Int.toNat_natCast Int.toNat_natCast_add_one Int.ofNat_lt wrap64 Int.le_refl
end Go.AM
namespace Go.AM
section
variable {α:Type}
def yl (le:α→α→Bool) (x:α):List α→List α
 | []=> [x]
 | y::ys=>if le x y then x::y::ys else y::yl le x ys
def lh (le:α→α→Bool):List α→List α
 | []=> []
 | x::xs=>yl le x (lh le xs)
theorem pZ (le:α→α→Bool) (x:α): ∀l:List α,(yl le x l).Perm (x::l)
 | []=> .refl _
 | y::ys=>by
   unfold yl
   split
   · exact .refl _
   · exact((pZ le x ys).cons y).trans (.swap x y ys)
theorem kA (le:α→α→Bool): ∀l:List α,(lh le l).Perm l
 | []=> .refl _
 | x::xs=> (pZ le x _).trans ((kA le xs).cons x)
theorem qH {le:α→α→Bool} (ht: ∀a b c,le a b=true→le b c=true→le a c=true) (hl: ∀a b,(le a b || le b a)=true) (x:α): ∀ {l:List α},l.Pairwise (le · ·)→(yl le x l).Pairwise (le · ·)
 | [],_=>by simp[yl]
 | y::ys,h=>by
   unfold yl
   split
   · rename_i D5
     rw[List.pairwise_cons] at h ⊢
     exact⟨fun z hz=>by
       rcases List.mem_cons.1 hz with rfl| hz
       · exact D5
       · exact ht _ _ _ D5 (h.1 z hz),List.pairwise_cons.2 h⟩
   · rename_i D5
     rw[List.pairwise_cons] at h ⊢
     refine⟨fun z hz=> ?_,qH ht hl x h.2⟩
     have hz:=(pZ le x ys).mem_iff.1 hz
     rcases List.mem_cons.1 hz with rfl| hz
     · have:=hl z y
       simp only[Bool.or_eq_true] at this
       exact this.resolve_left D5
     · exact h.1 z hz
theorem kB {le:α→α→Bool} (ht: ∀a b c,le a b=true→le b c=true→le a c=true) (hl: ∀a b,(le a b || le b a)=true): ∀l:List α,(lh le l).Pairwise (le · ·)
 | []=>by simp[lh]
 | x::xs=>qH ht hl x (kB ht hl xs)
theorem Au {le:α→α→Bool} (ha: ∀a b,le a b=true→le b a=true→a=b): ∀ {l l':List α},l.Perm l'→l.Pairwise (le · ·)→l'.Pairwise (le · ·)→l=l':=by
 intro l l' hp h h'
 exact hp.eq_of_pairwise (fun a b _ _ h1 h2=>ha a b h1 h2) h h'
theorem rC {le:α→α→Bool} (ha: ∀a b,le a b=true→le b a=true→a=b) (ht: ∀a b c,le a b=true→le b c=true→le a c=true) (hl: ∀a b,(le a b || le b a)=true) (l:List α):l.mergeSort le=lh le l:=
 Au ha ((List.mergeSort_perm l le).trans (kA le l).symm) (List.pairwise_mergeSort ht hl l) (kB ht hl l)
end
def xZ (x y:List UInt8):Bool:=decide (x≤y)
def iV (l:List (List UInt8)):List (List UInt8):=lh xZ l
theorem Cd (a b:List UInt8) (h1:xZ a b=true) (h2:xZ b a=true):a=b:=by
 simp only[xZ,decide_eq_true_eq] at h1 h2;exact List.le_antisymm h1 h2
theorem ur (a b c:List UInt8) (h1:xZ a b=true) (h2:xZ b c=true):xZ a c=true:=by
 simp only[xZ,decide_eq_true_eq] at h1 h2 ⊢;exact List.le_trans h1 h2
theorem uu (a b:List UInt8): (xZ a b || xZ b a)=true:=by
 simp only[xZ,Bool.or_eq_true,decide_eq_true_eq];exact List.le_total a b
theorem wv (l:List (List UInt8)): (l.mergeSort fun x y=>decide (x≤y))=iV l:=
 rC (le:=xZ) Cd ur uu l
def nX:List V→Option (List (List UInt8))
 | []=>some []
 | .str s::vs=> (nX vs).map (s:: ·)
 | _=>none
theorem uv: ∀ {vs:List V} {zs:List (List UInt8)},nX vs=some zs→vs=zs.map V.str
 | [],zs,h=>by simp[nX] at h;subst h;rfl
 | v::vs,zs,h=>by
   unfold nX at h
   split at h
   · rename_i heq;simp at heq
   · rename_i n vs' heq
     injection heq with e1 e2
     subst e1;subst e2
     rw[Option.map_eq_some_iff] at h
     obtain⟨ys,h1,rfl⟩:=h
     rw[uv h1];rfl
   · simp at h
theorem sg: ∀zs:List (List UInt8),nX (zs.map V.str)=some zs
 | []=>rfl
 | z::zs=>by simp only[List.map_cons,nX,sg zs,Option.map_some]
def sh:List V→Option fh
 | [.msl 1 es 0 len]=>if len=es.length then match nX es with
     | some zs=>if zs.length< 4611686018427387904 then some ⟨.tuple [],[(0,(iV zs).map V.str)]⟩ else none
     | none=>none
   else none
 | _=>none
end Go.AM
namespace Go.AM
def My (tab:List (Nat×aB)) (f:Nat):Option aB:=(tab.find? (·.1==f)).map (·.2)
def Gk (tab:List (Nat× (List V→Option fh))) (f:Nat) (as:List V):Option fh:=match tab.find? (·.1==f) with
 | some p=>p.2 as
 | none=>none
structure Hf where
 h: (Nat→List V→Option fh)→List V→Option fh
 mono: ∀ (C C':Nat→List V→Option fh),(∀g vs r,C g vs=some r→C' g vs=some r)→ ∀vs r,h C vs=some r→h C' vs=some r
def zy (tab:List (Nat×Hf)) (f:Nat):Option ((Nat→List V→Option fh)→List V→Option fh):=(tab.find? (·.1==f)).map (·.2.h)
theorem ym (tab:List (Nat×Hf)): ∀f h,zy tab f=some h→ ∀ (C C':Nat→List V→Option fh),(∀g vs r,C g vs=some r→C' g vs=some r)→ ∀vs r,h C vs=some r→h C' vs=some r:=by
 intro f h hf
 unfold zy at hf
 rw[Option.map_eq_some_iff] at hf
 obtain⟨p,_,rfl⟩:=hf
 exact p.2.mono
def Ce (tab:List (Nat× (List V→Option (List (List V))))) (g:Nat) (caps:List V):Option (List (List V)):=match tab.find? (·.1==g) with
 | some p=>p.2 caps
 | none=>none
def L2 (tab:List (Nat×aB)) (ext:List (Nat× (List V→Option fh))) (hyb:List (Nat×Hf)) (iter:List (Nat× (List V→Option (List (List V))))):Env:={fn:=My tab,ext:=Gk ext,hyb:=zy hyb,mono:=ym hyb,iter:=Ce iter}
abbrev od (d:Nat) (x:pP):bq:=⟨some d,x,none,[]⟩
abbrev ow (x:pP):bq:=⟨none,x,none,[]⟩
abbrev op (d:Nat) (x:pP) (p:List Nat):bq:=⟨some d,x,none,p⟩
abbrev rg (n:Nat):List Nat:=List.range n
abbrev ic (n:Int):aP:= .const (.int .i64 n)
abbrev fc (n:Nat):aP:= .const (.fn n [])
end Go.AM
namespace Go.AM
end Go.AM
namespace Go.AM
structure SS where
 T:List (Nat×V)
 O:List (Nat×Obj)
def lk {α:Type}:List (Nat×α)→Nat→Option α
 | [],_=>none
 | (k,v)::l,n=>bif Nat.beq k n then some v else lk l n
def SS.On (S:SS) (σ:St):Prop:=(∀t v,lk S.T t=some v→σ.T t=v)∧(∀r o,lk S.O r=some o→σ.O r=o)
def SS.put (S:SS) (d:Option Nat) (v:V):SS:=match d with
 | some d=> ⟨(d,v)::S.T,S.O⟩
 | none=>S
def SS.bC (S:SS) (r:Nat) (o:Obj):SS:=⟨S.T,(r,o)::S.O⟩
theorem ee {α:Type} {p:Nat×α} {l:List (Nat×α)} {n:Nat}:lk (p::l) n=if p.1=n then some p.2 else lk l n:=by
 obtain⟨k,v⟩:=p
 simp only[lk]
 by_cases h:k=n
 · simp[h]
 · have:Nat.beq k n=false:=by
    cases hb:Nat.beq k n with
    | false=>rfl
    | true=>exact absurd (Nat.eq_of_beq_eq_true hb) h
   simp[h,this]
theorem SS.On.put {S:SS} {σ:St} (h:S.On σ) (d:Option Nat) (v:V): (S.put d v).On (σ.put d v):=by
 cases d with
 | none=>exact h
 | some d=>
   refine⟨fun t x hx=> ?_,fun r o ho=> ?_⟩
   · simp only[SS.put,ee] at hx
     show cW σ.T d v t=x
     unfold cW
     by_cases e:d=t
     · simp only[e,if_true,Option.some.injEq] at hx ⊢;exact hx
     · rw[if_neg e] at hx;rw[if_neg (Ne.symm e)];exact h.1 t x hx
   · exact h.2 r o ho
theorem SS.On.bC {S:SS} {σ:St} (h:S.On σ) (r:Nat) (o:Obj): (S.bC r o).On (σ.bC r o):=by
 refine⟨fun t x hx=>h.1 t x hx,fun r' x hx=> ?_⟩
 simp only[SS.bC,ee] at hx
 show cW σ.O r o r'=x
 unfold cW
 by_cases e:r=r'
 · simp only[e,if_true,Option.some.injEq] at hx ⊢;exact hx
 · rw[if_neg e] at hx;rw[if_neg (Ne.symm e)];exact h.2 r' x hx
inductive bu:Type 1 where
 | done (v:V)
 | fail
 | lE (t:Nat) (k:V→bu)
 | bR (r:Nat) (k:Obj→bu)
 | bC (r:Nat) (o:Obj) (k:bu)
 | lG (r:Nat) (k:Nat→bu)
 | call (f:Nat) (args:List V) (k:fh→bu)
 | bS (p:Prop) (k:bu)
 | ex (α:Type) (p:α→Prop) (k:α→bu)
 | ite (b:Bool) (x y:bu)
 | alt (x y:bu)
 | all (k:Nat→bu)
 | Mz (a:Act)
def Ref:bu→Act→Prop
 | .done v,a=>a= .done v
 | .fail,_=>True
 | .lE t k,a=> ∃k0,a= .lE t k0∧ ∀v,Ref (k v) (k0 v)
 | .bR r k,a=> ∃k0,a= .bR r k0∧ ∀o,Ref (k o) (k0 o)
 | .bC r o k,a=> ∃k0,a= .bC r o k0∧Ref k k0
 | .lG r k,a=> ∃k0,a= .bR r k0∧ ∀o:Obj,Ref (k (o.gen+1)) (k0 o)
 | .call f as k,a=> ∃k0,a= .call f as k0∧ ∀res,Ref (k res) (k0 res)
 | .bS p k,a=>p→Ref k a
 | .ex _ p k,a=> ∀x,p x→Ref (k x) a
 | .ite b x y,a=> (b=true→Ref x a)∧(b=false→Ref y a)
 | .alt x y,a=>Ref x a∧Ref y a
 | .all k,a=> ∃n,Ref (k n) a
 | .Mz b,a=>a=b
structure dC (p q:Prop):Prop where
 side:p
 rest:q
inductive aL {α:Type} (p q:α→Prop):Prop
 | mk (x:α) (h:p x) (k:q x)
structure Br (b:Bool) (p q:Prop):Prop where
 yes:b=true→p
 no:b=false→q
inductive ag (E:Env) (f:Nat) (as:List V) (q:fh→Prop):Prop
 | mk (res:fh) (h:Ev E f as res) (k:q res)
theorem Br.tt {p q:Prop} (h:p):Br true p q:=⟨fun _=>h,fun h=>by cases h⟩
theorem Br.ff {p q:Prop} (h:q):Br false p q:=⟨fun h=> (by cases h),fun _=>h⟩
theorem Br.dec {c:Prop} {_:Decidable c} {p q:Prop} (h:c→p) (k: ¬c→q):Br (decide c) p q:=⟨fun e=>h (of_decide_eq_true e),fun e=>k (of_decide_eq_false e)⟩
theorem Br.U3 {c:Prop} {_:Decidable c} {p q:Prop} (h: ¬c→p) (k:c→q):Br (!decide c) p q:=by
 refine⟨fun e=>h ?_,fun e=>k ?_⟩
 · simpa using e
 · simpa using e
theorem Br.t {c:Prop} {_:Decidable c} {p q:Prop} (h:c) (k:p):Br (decide c) p q:=⟨fun _=>k,fun e=>absurd h (of_decide_eq_false e)⟩
theorem Br.f {c:Prop} {_:Decidable c} {p q:Prop} (h: ¬c) (k:q):Br (decide c) p q:=⟨fun e=>absurd (of_decide_eq_true e) h,fun _=>k⟩
theorem Br.nt {c:Prop} {_:Decidable c} {p q:Prop} (h: ¬c) (k:p):Br (!decide c) p q:=⟨fun _=>k,fun e=>absurd ((by simpa using e:c)) h⟩
theorem Br.nf {c:Prop} {_:Decidable c} {p q:Prop} (h:c) (k:q):Br (!decide c) p q:=⟨fun e=>absurd h ((by simpa using e: ¬c)),fun _=>k⟩
theorem Br.bt {b:Bool} {p q:Prop} (h:b=true) (k:p):Br b p q:=⟨fun _=>k,fun e=> (by rw[h] at e;cases e)⟩
theorem Br.bf {b:Bool} {p q:Prop} (h:b=false) (k:q):Br b p q:=⟨fun e=> (by rw[h] at e;cases e),fun _=>k⟩
abbrev KK:=V→SS→List Loc→List Loc→Prop
structure Av (E:Env) (a:Act) (S:SS) (Q:KK):Prop where
 h: ∀σ,S.On σ→oD E a σ fun v σ' r w=> ∃S',S'.On σ'∧Q v S' r w
def eS (E:Env):bu→SS→KK→Prop
 | .done v,S,Q=>Q v S [] []
 | .fail,_,_=>False
 | .lE t k,S,Q=>match lk S.T t with
   | some v=>eS E (k v) S fun v S' r w=>Q v S' (.t t::r) w
   | none=>False
 | .bR t k,S,Q=>match lk S.O t with
   | some v=>eS E (k v) S fun v S' r w=>Q v S' (.o t::r) w
   | none=>False
 | .bC t o k,S,Q=>match S with
   | ⟨T,O⟩=>eS E k ⟨T,(t,o)::O⟩ fun v S' r w=>Q v S' r (.o t::w)
 | .lG t k,S,Q=> ∀g:Nat,eS E (k g) S fun v S' r w=>Q v S' (.o t::r) w
 | .call f as k,S,Q=>ag E f as fun res=>eS E (k res) S Q
 | .bS p k,S,Q=>dC p (eS E k S Q)
 | .ex _ p k,S,Q=>aL p fun x=>eS E (k x) S Q
 | .ite b x y,S,Q=>Br b (eS E x S Q) (eS E y S Q)
 | .alt x y,S,Q=>eS E x S Q∨eS E y S Q
 | .all k,S,Q=> ∀n,eS E (k n) S Q
 | .Mz a,S,Q=>Av E a S Q
theorem cN {E:Env}: ∀ {a2:bu} {a:Act} {S:SS} {Q:KK} {σ:St},Ref a2 a→eS E a2 S Q→S.On σ→oD E a σ fun v σ' r w=> ∃S',S'.On σ'∧Q v S' r w
 | .done v,a,S,Q,σ,hr,h,ho=>by
   simp only[Ref] at hr;subst hr
   rw[j0];exact⟨S,ho,h⟩
 | .fail,_,_,_,_,_,h,_=>by simp[eS] at h
 | .lE t k,a,S,Q,σ,hr,h,ho=>by
   obtain⟨k0,rfl,hk⟩:=hr
   rw[oI]
   simp only[eS] at h
   split at h
   · rename_i v hv
     rw[ho.1 t v hv]
     exact cN (hk v) h ho
   · exact h.elim
 | .bR t k,a,S,Q,σ,hr,h,ho=>by
   obtain⟨k0,rfl,hk⟩:=hr
   rw[lO]
   simp only[eS] at h
   split at h
   · rename_i v hv
     rw[ho.2 t v hv]
     exact cN (hk v) h ho
   · exact h.elim
 | .bC t o k,a,S,Q,σ,hr,h,ho=>by
   obtain⟨k0,rfl,hk⟩:=hr
   rw[oJ]
   simp only[eS] at h
   obtain⟨T,O⟩:=S
   exact cN hk h (ho.bC t o)
 | .lG t k,a,S,Q,σ,hr,h,ho=>by
   obtain⟨k0,rfl,hk⟩:=hr
   rw[lO]
   simp only[eS] at h
   exact cN (hk (σ.O t)) (h _) ho
 | .call f as k,a,S,Q,σ,hr,h,ho=>by
   obtain⟨k0,rfl,hk⟩:=hr
   rw[B5]
   simp only[eS] at h
   obtain⟨res,he,h⟩:=h
   exact⟨res,he,cN (hk res) h ho⟩
 | .bS p k,a,S,Q,σ,hr,h,ho=>cN (hr h.1) h.2 ho
 | .ex α p k,a,S,Q,σ,hr,h,ho=>by
   simp only[eS] at h
   obtain⟨x,hx,h⟩:=h
   exact cN (hr x hx) h ho
 | .ite b x y,a,S,Q,σ,hr,h,ho=>by
   simp only[eS] at h
   simp only[Ref] at hr
   cases b with
   | true=>exact cN (hr.1 rfl) (h.1 rfl) ho
   | false=>exact cN (hr.2 rfl) (h.2 rfl) ho
 | .alt x y,a,S,Q,σ,hr,h,ho=>by
   simp only[eS] at h
   rcases h with h| h
   · exact cN hr.1 h ho
   · exact cN hr.2 h ho
 | .all k,a,S,Q,σ,hr,h,ho=>by
   obtain⟨n,hr⟩:=hr
   exact cN hr (h n) ho
 | .Mz b,a,S,Q,σ,hr,h,ho=>by
   simp only[Ref] at hr
   subst hr
   exact h.h σ ho
end Go.AM
namespace Go.AM
def nth {α:Type}:List α→Nat→Option α
 | [],_=>none
 | x::_,0=>some x
 | _::l,n+1=>nth l n
theorem yn {α:Type}: ∀ (l:List α) (n:Nat),nth l n=l[n]?
 | [],_=>by simp[nth]
 | _::_,0=>by simp[nth]
 | _::l,n+1=>by simp[nth,yn l n]
def force {α:Type} {β:Type 1}:List α→(List α→β)→β
 | [],k=>k []
 | x::l,k=>force l fun l'=>k (x::l')
theorem force_eq {α:Type} {β:Type 1}: ∀ (l:List α) (k:List α→β),force l k=k l
 | [],_=>rfl
 | _::l,k=>by simp only[force,force_eq l]
def vk {α:Type}:List α→Nat→α→List α
 | [],_,_=> []
 | _::l,0,y=>y::l
 | x::l,n+1,y=>x::vk l n y
theorem rS {α:Type}: ∀ (l:List α) (n:Nat) (y:α),vk l n y=l.set n y
 | [],_,_=>by simp[vk]
 | _::_,0,_=>by simp[vk]
 | _::l,n+1,y=>by simp[vk,rS l n y]
def eC {α:Type}:List α→Nat→Bool
 | [],0=>true
 | _::l,n+1=>eC l n
 | _,_=>false
theorem iW {α:Type}: ∀ {l:List α} {n:Nat},eC l n=true→l.length=n
 | [],0,_=>rfl
 | _::l,n+1,h=>by simp only[eC] at h;simp[iW h]
 | [],_+1,h=>by simp[eC] at h
 | _::_,0,h=>by simp[eC] at h
def fB {α:Type}:List α→Nat→Bool
 | _,0=>true
 | _::l,n+1=>fB l n
 | [],_+1=>false
theorem j3 {α:Type}: ∀ {l:List α} {n:Nat},fB l n=true→n≤l.length
 | _,0,_=>Nat.zero_le _
 | _::l,n+1,h=>by simp only[fB] at h;simpa using j3 h
 | [],_+1,h=>by simp[fB] at h
def takeN {α:Type}:List α→Nat→List α
 | _,0=> []
 | x::l,n+1=>x::takeN l n
 | [],_+1=> []
theorem oR {α:Type}: ∀ (l:List α) (n:Nat),takeN l n=l.take n
 | _,0=>by simp[takeN]
 | _::l,n+1=>by simp[takeN,oR l n]
 | [],_+1=>by simp[takeN]
def nv {α:Type}:List α→Nat→List α
 | l,0=>l
 | _::l,n+1=>nv l n
 | [],_+1=> []
theorem oS {α:Type}: ∀ (l:List α) (n:Nat),nv l n=l.drop n
 | _,0=>by simp[nv]
 | _::l,n+1=>by simp[nv,oS l n]
 | [],_+1=>by simp[nv]
def iX (v:V) (sz:Nat):Bool:=match v with
 | .agg cs=>eC cs sz
 | v=>V.aI v &&Nat.beq sz 1
theorem iM {v:V} {sz:Nat} (h:iX v sz=true):aN v sz=true:=by
 unfold iX at h
 split at h
 · simp[aN,V.cells,V.cX,V.isAgg,iW h]
 · rename_i hn
   simp only[Bool.and_eq_true] at h
   have h1:sz=1:=Nat.eq_of_beq_eq_true h.2
   have h2:v.cells=[v]:=by cases v<;>simp_all[V.cells]
   simp[aN,V.cX,h2,h1,h.1]
def si (agg:Bool) (off sz:Nat) (e:V):Option V:=
 match agg with
 | true=>match e with
   | .agg cs=>bif Nat.beq off 0 &&eC cs sz then some e else bif fB cs (off+sz) then some (.agg (takeN (nv cs off) sz)) else none
   | _=>none
 | false=>match e with
   | .agg cs=>nth cs off
   | v=>bif V.aI v &&Nat.beq off 0 then some v else none
theorem iY {agg:Bool} {off sz:Nat} {e v:V} (h:si agg off sz e=some v):AM.part agg off sz e=some v:=by
 cases agg with
 | true=>
   simp only[si] at h
   cases e with
   | agg cs=>
     simp only at h
     cases hb: (Nat.beq off 0 &&eC cs sz) with
     | true=>
       simp only[hb,cond_true,Option.some.injEq] at h
       subst h
       simp only[Bool.and_eq_true] at hb
       have h1:off=0:=Nat.eq_of_beq_eq_true hb.1
       have h2:=iW hb.2
       simp[AM.part,h1,←h2]
     | false=>
       simp only[hb,cond_false] at h
       cases hc:fB cs (off+sz) with
       | true=>
         simp only[hc,cond_true,Option.some.injEq] at h
         subst h
         simp[AM.part,oR,oS,j3 hc]
       | false=>simp[hc] at h
   | _=>simp at h
 | false=>
   simp only[si] at h
   cases e with
   | agg cs=>simp only[yn] at h;simpa [AM.part] using h
   | _=>
     simp only[V.aI,Bool.true_and,Bool.false_and,cond_false] at h
     first
     | (simp at h;done)
     | (cases hb:Nat.beq off 0 with
        | true=>simp only[hb,cond_true] at h;have h1:=Nat.eq_of_beq_eq_true hb;simp[AM.part,h1,V.aI];simpa using h
        | false=>simp[hb] at h)
def hG (agg:Bool) (off sz:Nat) (e v:V):Option V:=
 match agg with
 | true=>match e,v with
   | .agg cs,.agg vs=>bif eC vs sz then(bif Nat.beq off 0 &&eC cs sz then some v else bif fB cs (off+sz) then some (.agg (takeN cs off++(vs++nv cs (off+sz)))) else none) else none
   | _,_=>none
 | false=>bif V.aI v &&Nat.beq sz 1 then match e with
    | .agg cs=>bif fB cs (off+1) then some (.agg (vk cs off v)) else none
    | e=>bif V.aI e &&Nat.beq off 0 then some v else none
   else none
theorem qI {agg:Bool} {off sz:Nat} {e v x:V} (h:hG agg off sz e v=some x):cV agg off sz e v=some x:=by
 cases agg with
 | true=>
   simp only[hG] at h
   split at h
   · rename_i cs vs
     cases h1:eC vs sz with
     | false=>simp[h1] at h
     | true=>
       have tU:=iW h1
       simp only[h1,cond_true] at h
       cases hb: (Nat.beq off 0 &&eC cs sz) with
       | true=>
         simp only[hb,cond_true,Option.some.injEq] at h
         subst h
         simp only[Bool.and_eq_true] at hb
         have h3:off=0:=Nat.eq_of_beq_eq_true hb.1
         have h2:=iW hb.2
         subst h3
         simp[cV,tU,h2]
       | false=>
         simp only[hb,cond_false] at h
         cases hc:fB cs (off+sz) with
         | true=>
           simp only[hc,cond_true,Option.some.injEq] at h
           subst h
           simp[cV,oR,oS,j3 hc,tU]
         | false=>simp[hc] at h
   · simp at h
 | false=>
   simp only[hG] at h
   cases hb: (V.aI v &&Nat.beq sz 1) with
   | false=>simp[hb] at h
   | true=>
     simp only[hb,cond_true] at h
     simp only[Bool.and_eq_true] at hb
     have h1:sz=1:=Nat.eq_of_beq_eq_true hb.2
     split at h
     · rename_i cs
       cases hc:fB cs (off+1) with
       | false=>simp[hc] at h
       | true=>
         simp only[hc,cond_true,Option.some.injEq] at h
         subst h
         have:=j3 hc
         simp[cV,hb.1,h1,rS];omega
     · rename_i hn
       cases hc: (V.aI e &&Nat.beq off 0) with
       | false=>simp[hc] at h
       | true=>
         simp only[hc,cond_true,Option.some.injEq] at h
         subst h
         simp only[Bool.and_eq_true] at hc
         have h3:off=0:=Nat.eq_of_beq_eq_true hc.2
         cases e<;>simp_all[cV,V.aI]
def iZ:Option V→bu
 | some v=> .done v
 | none=> .fail
def ny (agg:Bool) (off sz:Nat) (e:V):bu:=
 match agg with
 | true=>match e with
   | .agg cs=>bif Nat.beq off 0 &&eC cs sz then .done e else bif fB cs (off+sz) then force (takeN (nv cs off) sz) fun l=> .done (.agg l) else .fail
   | _=> .fail
 | false=>match e with
   | .agg cs=>iZ (nth cs off)
   | v=>bif V.aI v &&Nat.beq off 0 then .done v else .fail
theorem lQ {agg:Bool} {off sz:Nat} {e:V}:ny agg off sz e=iZ (si agg off sz e):=by
 unfold ny si
 cases agg with
 | true=>
   cases e with
   | agg cs=>
     simp only
     cases hb: (Nat.beq off 0 &&eC cs sz) with
     | true=>rfl
     | false=>
       simp only[cond_false]
       cases hc:fB cs (off+sz) with
       | true=>simp only[cond_true,force_eq];rfl
       | false=>rfl
   | _=>rfl
 | false=>
   cases e with
   | agg cs=>rfl
   | _=>simp only;cases hb:Nat.beq off 0 <;>simp[V.aI,iZ]
def Cf (agg:Bool) (off sz:Nat) (e v:V) (k:V→bu):bu:=
 match agg with
 | true=>match e,v with
   | .agg cs,.agg vs=>bif eC vs sz then(bif Nat.beq off 0 &&eC cs sz then k v else bif fB cs (off+sz) then force (takeN cs off++(vs++nv cs (off+sz))) fun l=>k (.agg l) else .fail) else .fail
   | _,_=> .fail
 | false=>bif V.aI v &&Nat.beq sz 1 then match e with
    | .agg cs=>bif fB cs (off+1) then force (vk cs off v) fun l=>k (.agg l) else .fail
    | e=>bif V.aI e &&Nat.beq off 0 then k v else .fail
   else .fail
theorem Ef {agg:Bool} {off sz:Nat} {e v:V} {k:V→bu}:Cf agg off sz e v k=match hG agg off sz e v with
   | some x=>k x
   | none=> .fail:=by
 unfold Cf hG
 cases agg with
 | true=>
   simp only
   split
   · rename_i cs vs
     cases eC vs sz with
     | false=>rfl
     | true=>
       simp only[cond_true]
       cases (Nat.beq off 0 &&eC cs sz) with
       | true=>rfl
       | false=>
         simp only[cond_false]
         cases fB cs (off+sz) with
         | true=>simp only[cond_true,force_eq]
         | false=>rfl
   · rfl
 | false=>
   simp only
   cases (V.aI v &&Nat.beq sz 1) with
   | false=>rfl
   | true=>
     simp only[cond_true]
     split
     · rename_i cs
       cases fB cs (off+1) with
       | true=>simp only[cond_true,force_eq]
       | false=>rfl
     · cases (V.aI e &&Nat.beq off 0) <;>rfl
def eF (x:aP) (k:V→bu):bu:=match x with
 | .tmp t=> .lE t k
 | .const v=>k v
theorem Ref.ev {x:aP} {k:V→bu} {k0:V→Act} (h: ∀v,Ref (k v) (k0 v)):Ref (eF x k) (AM.ev x k0):=by
 cases x with
 | tmp t=>exact⟨k0,rfl,h⟩
 | const v=>exact h v
def Aw:List aP→(List V→bu)→bu
 | [],k=>k []
 | x::xs,k=>eF x fun v=>Aw xs fun vs=>k (v::vs)
theorem Ref.uq: ∀ {xs:List aP} {k:List V→bu} {k0:List V→Act},(∀v,Ref (k v) (k0 v))→Ref (Aw xs k) (AM.uq xs k0)
 | [],_,_,h=>h []
 | x::xs,_,_,h=>Ref.ev fun v=>Ref.uq fun vs=>h (v::vs)
def Ax:Option aP→(Option V→bu)→bu
 | none,k=>k none
 | some x,k=>eF x fun v=>k (some v)
theorem Ref.tJ {x:Option aP} {k:Option V→bu} {k0:Option V→Act} (h: ∀v,Ref (k v) (k0 v)):Ref (Ax x k) (AM.tJ x k0):=by
 cases x with
 | none=>exact h none
 | some x=>exact Ref.ev fun v=>h (some v)
theorem Ref.cM {o o0:Option V} (h: ∀v,o=some v→o0=some v):Ref (iZ o) (AM.cM o0):=by
 cases o with
 | none=>trivial
 | some v=>rw[h v rfl];exact rfl
theorem Ref.eT {o:Option V}:Ref (iZ o) (AM.cM o):=Ref.cM fun _ h=>h
theorem Ref.fail {a:Act}:Ref .fail a:=trivial
theorem Ref.done {v:V}:Ref (.done v) (.done v):=rfl
def sj (c:V) (k:V→bu):bu:=
 match c with
 | .sl r g off len=> .bR r fun ⟨ck,fI,da,ij,gQ⟩=>match gQ with
   | some es=> .ex (List V) (fun ys=>aH es off len=ys) fun ys=> .bS (ck=g∧da=true∧off+len≤es.length∧V.aq ys=true) (.bC r ⟨ck,fI,da,true,gQ⟩ (k (.lit fI ys)))
   | none=> .fail
 | .mp r g=> .bR r fun ⟨ck,fI,da,ij,gQ⟩=>match gQ with
   | some es=> .ex (List V) (fun ys=>es=ys) fun ys=> .bS (ck=g∧fI=0∧V.aq ys=true∧ys.all V.isTuple=true) (.bC r ⟨ck,fI,da,true,gQ⟩ (k (.mlit ys)))
   | none=> .fail
 | .own .. | .msl .. | .mptr .. | .any| .it .. => .fail
 | c=>k c
theorem Ref.b5 {c:V} {k:V→bu} {k0:V→Act} (h: ∀v,Ref (k v) (k0 v)):Ref (sj c k) (AM.b5 c k0):=by
 cases c
 case sl r g off len=>
  refine⟨_,rfl,fun ⟨gen,sz,arr,fz,es⟩=> ?_⟩
  cases es with
  | none=>trivial
  | some es=>
    rintro ys rfl hc
    simp only[hc,and_self,if_true]
    refine⟨_,by simp[hc],h _⟩
 case mp r g=>
  refine⟨_,rfl,fun ⟨gen,sz,arr,fz,es⟩=> ?_⟩
  cases es with
  | none=>trivial
  | some es=>
    rintro ys rfl hc
    simp only[hc,and_self,if_true]
    refine⟨_,by simp[hc],h _⟩
 all_goals first| exact h _| trivial
def p8:List V→(List V→bu)→bu
 | [],k=>k []
 | c::cs,k=>sj c fun c'=>p8 cs fun cI=>k (c'::cI)
theorem Ref.dx: ∀ {cs:List V} {k:List V→bu} {k0:List V→Act},(∀v,Ref (k v) (k0 v))→Ref (p8 cs k) (AM.dx cs k0)
 | [],_,_,h=>h []
 | _::_,_,_,h=>Ref.b5 fun v=>Ref.dx fun vs=>h (v::vs)
def wx (v:V) (k:V→bu):bu:=
 bif V.aC v then k v else
 match v with
 | .agg cs=>p8 cs fun cI=>k (.agg cI)
 | v=>sj v k
theorem Ref.qG {v:V} {k:V→bu} {k0:V→Act} (h: ∀v,Ref (k v) (k0 v)):Ref (wx v k) (AM.qG v k0):=by
 unfold wx AM.qG
 cases hp:V.aC v with
 | true=>simpa using h v
 | false=>
   simp only[cond_false,Bool.false_eq_true,if_false]
   cases v
   case agg cs=>exact Ref.dx fun cI=>h _
   all_goals exact Ref.b5 h
def Cg (vs:List V) (k:List V→bu):bu:=
 .alt (.bS (V.aq vs=true) (k vs)) (match vs with
  | [v]=>wx v fun v'=>k [v']
  | _=> .fail)
theorem Ref.fK {vs:List V} {k:List V→bu} {k0:List V→Act} (h: ∀v,Ref (k v) (k0 v)):Ref (Cg vs k) (AM.fK vs k0):=by
 unfold Cg
 refine⟨?_,?_⟩
 · intro hp
   simp only[AM.fK,hp,if_true]
   exact h _
 · split
   · rename_i v
     unfold AM.fK
     by_cases hp:V.aq [v]=true
     · rw[if_pos hp]
       have h1:V.aC v=true:=by simpa [V.aq] using hp
       unfold wx
       simp only[h1,cond_true];exact h _
     · rw[if_neg hp]
       simp only[AM.fK.go]
       exact Ref.qG fun v'=>h _
   · trivial
end Go.AM
namespace Go.AM
def vl (f:V→(V→List Nat→bu)→bu):List V→(List V→List Nat→bu)→bu
 | [],k=>k [] []
 | c::cs,k=>f c fun c' r=>vl f cs fun cI rs=>k (c'::cI) (r++rs)
theorem Ref.nz {f:V→(V→List Nat→bu)→bu} {f0:V→(V→List Nat→Act)→Act} (hf: ∀c k k0,(∀v rs,Ref (k v rs) (k0 v rs))→Ref (f c k) (f0 c k0)):
  ∀ {cs:List V} {k:List V→List Nat→bu} {k0:List V→List Nat→Act},(∀v rs,Ref (k v rs) (k0 v rs))→Ref (vl f cs k) (AM.nz f0 cs k0)
 | [],_,_,h=>h _ _
 | _::_,_,_,h=>hf _ _ _ fun v rs=>Ref.nz hf fun vs rs'=>h _ _
def ik:Nat→V→(V→List Nat→bu)→bu
 | 0,v,k=> .bS (V.aC v=true) (k v [])
 | d+1,v,k=>bif V.aC v then k v [] else
   match v with
   | .agg cs=>vl (ik d) cs fun cI rs=>k (.agg cI) rs
   | .fn f cs=>vl (ik d) cs fun cI rs=>k (.fn f cI) rs
   | .iface t x=>ik d x fun x' rs=>k (.iface t x') rs
   | .sl r g off len=> .bR r fun ⟨ck,fI,da,ij,gQ⟩=>match gQ with
     | some es=> .ex (List V) (fun ys=>aH es off len=ys) fun ys=> .bS (ck=g∧da=true∧off+len≤es.length∧V.aq ys=true) (k (.lit fI ys) [r])
     | none=> .fail
   | .ptr r g idx off=> .bR r fun ⟨ck,fI,da,ij,gQ⟩=>match gQ with
     | some es=> .bS (ck=g) (match es with
       | [e]=> (match idx with| 0=>ik d e fun e' rs=>k (.eptr e' off) (r::rs) | _+1=> .fail)
       | es=> .ex V (fun e=>es[idx]? =some e) fun e=>ik d e fun e' rs=>k (.eptr e' off) (r::rs))
     | none=> .fail
   | _=> .fail
theorem Ref.eG: ∀ {d:Nat} {v:V} {k:V→List Nat→bu} {k0:V→List Nat→Act},(∀v rs,Ref (k v rs) (k0 v rs))→Ref (ik d v k) (AM.eG d v k0)
 | 0,v,k,k0,h=>by
   intro hp
   simp only[AM.eG,hp,if_true]
   exact h _ _
 | d+1,v,k,k0,h=>by
   unfold ik AM.eG
   cases hp:V.aC v with
   | true=>simpa using h v []
   | false=>
     simp only[cond_false,Bool.false_eq_true,if_false]
     cases v
     case agg cs=>exact Ref.nz (f:=ik d) (f0:=AM.eG d) (fun c k k0 h=>Ref.eG h) fun cI rs=>h _ _
     case fn f cs=>exact Ref.nz (f:=ik d) (f0:=AM.eG d) (fun c k k0 h=>Ref.eG h) fun cI rs=>h _ _
     case iface t x=>exact Ref.eG fun x' rs=>h _ _
     case sl r g off len=>
      refine⟨_,rfl,fun ⟨gen,sz,arr,fz,es⟩=> ?_⟩
      cases es with
      | none=>trivial
      | some es=>
        rintro ys rfl hc
        try simp only at hc
        simp only[hc,and_self,if_true,rT]
        exact h _ _
     case ptr r g idx off=>
      refine⟨_,rfl,fun ⟨gen,sz,arr,fz,es⟩=> ?_⟩
      cases es with
      | none=>trivial
      | some es=>
        intro hc
        try simp only at hc
        simp only[hc,if_true]
        split
        ·  rename_i e
           cases idx with
           | zero=>exact Ref.eG fun e' rs=>h _ _
           | succ n=>trivial
        ·  intro e he
           simp only[he]
           exact Ref.eG fun e' rs=>h _ _
     all_goals trivial
def hJ (   r0:Nat):List V→List (Option Nat)→Nat→(List V→List Nat→List dH→bu)→bu
 | [],_,_,k=>k [] [] []
 | v::vs,m::ms,i,k=>
   match m with
   | some sz=>match v with
     | .nils=> .bS (0 <sz) (hJ r0 vs ms (i+1) fun as rs ws=>k (.msl sz [] 0 0::as) rs (⟨i,r0+i,some sz⟩::ws))
     | .sl r g off len=> .bR r fun ⟨ck,fI,da,ij,gQ⟩=>match gQ with
       | some es=> .bS (ck=g∧ij=false∧fI=sz∧off+len≤es.length∧V.aq es=true)
          (hJ r0 vs ms (i+1) fun as rs ws=>k (.msl sz es off len::as) rs (⟨i,r,none⟩::ws))
       | none=> .fail
     | .ptr r g idx off=> .bR r fun ⟨ck,fI,da,ij,gQ⟩=>match gQ with
       | some es=> .bS (ck=g∧ij=false∧fI=sz∧V.aq es=true)
          (hJ r0 vs ms (i+1) fun as rs ws=>k (.mptr sz es idx off::as) rs (⟨i,r,none⟩::ws))
       | none=> .fail
     | _=> .fail
   | none=>ik 5 v fun v' rs=>hJ r0 vs ms (i+1) fun as rs' ws=>k (v'::as) (rs++rs') ws
 | v::vs,[],i,k=>ik 5 v fun v' rs=>hJ r0 vs [] (i+1) fun as rs' ws=>k (v'::as) (rs++rs') ws
theorem Ref.df {r0:Nat}: ∀ {vs:List V} {ms:List (Option Nat)} {i:Nat} {k:List V→List Nat→List dH→bu} {k0:List V→List Nat→List dH→Act},
   (∀a b c,Ref (k a b c) (k0 a b c))→Ref (hJ r0 vs ms i k) (AM.df r0 vs ms i k0)
 | [],_,_,_,_,h=>h _ _ _
 | v::vs,[],i,k,k0,h=>Ref.eG fun v' rs=>Ref.df fun a b c=>h _ _ _
 | v::vs,none::ms,i,k,k0,h=>Ref.eG fun v' rs=>Ref.df fun a b c=>h _ _ _
 | v::vs,some sz::ms,i,k,k0,h=>by
   unfold hJ AM.df
   cases v
   case nils=>
    intro hc
    simp only[hc,if_true]
    exact Ref.df fun a b c=>h _ _ _
   case sl r g off len=>
    refine⟨_,rfl,fun ⟨gen,sz,arr,fz,es⟩=> ?_⟩
    cases es with
    | none=>trivial
    | some es=>
      intro hc
      try simp only at hc
      simp only[hc,and_self,if_true]
      exact Ref.df fun a b c=>h _ _ _
   case ptr r g idx off=>
    refine⟨_,rfl,fun ⟨gen,sz,arr,fz,es⟩=> ?_⟩
    cases es with
    | none=>trivial
    | some es=>
      intro hc
      try simp only at hc
      simp only[hc,and_self,if_true]
      exact Ref.df fun a b c=>h _ _ _
   all_goals trivial
def kC:List Nat→bu→bu
 | [],k=>k
 | r::rs,k=> .bR r fun ⟨ck,fI,da,ij,gQ⟩=> .bC r ⟨ck,fI,da,true,gQ⟩ (kC rs k)
theorem Ref.cj: ∀ {rs:List Nat} {k:bu} {k0:Act},Ref k k0→Ref (kC rs k) (AM.cj rs k0)
 | [],_,_,h=>h
 | _::_,_,_,h=> ⟨_,rfl,fun ⟨_,_,_,_,_⟩=> ⟨_,rfl,Ref.cj h⟩⟩
def ja:List dH→List (Nat×List V)→(List (Nat×Nat×Nat)→bu)→bu
 | [],[],k=>k []
 | ⟨i,r,fresh⟩::ws,(Ay,es)::outs,k=> .bR r fun ⟨ck,fI,da,ij,gQ⟩=>match fresh with
   | none=> .bC r ⟨ck+Ay,fI,da,ij,some es⟩ (ja ws outs fun gs=>k ((i,r,ck+Ay)::gs))
   | some sz=> .bC r {gen:=ck+1,sz,arr:=true,fz:=false,es:=some es} (ja ws outs fun gs=>k ((i,r,ck+1)::gs))
 | _,_,_=> .fail
theorem Ref.cH: ∀ {ws:List dH} {outs:List (Nat×List V)} {k:List (Nat×Nat×Nat)→bu} {k0:List (Nat×Nat×Nat)→Act},(∀g,Ref (k g) (k0 g))→Ref (ja ws outs k) (AM.cH ws outs k0)
 | [],[],_,_,h=>h _
 | [],_::_,_,_,_=>trivial
 | _::_,[],_,_,_=>trivial
 | ⟨i,r,fresh⟩::ws,(Ay,es)::outs,k,k0,h=>by
   refine⟨_,rfl,fun ⟨gen,sz,arr,fz,es'⟩=> ?_⟩
   cases fresh with
   | none=>exact⟨_,rfl,Ref.cH fun g=>h _⟩
   | some sz=>exact⟨_,rfl,Ref.cH fun g=>h _⟩
theorem Ref.bif {b:Bool} {x:bu} {a:Act} (h:Ref x a):Ref (bif b then x else .fail) (if b=true then a else .fail):=by
 cases b with
 | true=>simpa using h
 | false=>trivial
def jD (bF:Bool) (r:Nat) (gs:List (Nat×Nat×Nat)) (c:V) (k:V→bu):bu:=
 match c with
 | .own sz xs=> (match bF with
   | true=> .lG r fun g=> .bC r {gen:=g,sz,arr:=true,fz:=false,es:=some xs} (k (.sl r g 0 xs.length))
   | false=>k (.lit sz xs))
 | .sl i _ off len=>match eR i gs with
   | some (r',g')=>k (.sl r' g' off len)
   | none=> .fail
 | c=>bif V.aC c then k c else .fail
theorem Ref.bT {bF:Bool} {r:Nat} {gs:List (Nat×Nat×Nat)} {c:V} {k:V→bu} {k0:V→Act} (h: ∀v,Ref (k v) (k0 v)):Ref (jD bF r gs c k) (AM.bT bF r gs c k0):=by
 unfold jD AM.bT
 cases c
 case own sz xs=>
  cases bF with
  | true=>exact⟨_,rfl,fun o=> ⟨_,rfl,h _⟩⟩
  | false=>exact h _
 case sl i g off len=>
  simp only
  cases eR i gs with
  | none=>trivial
  | some p=>exact h _
 all_goals exact Ref.bif (h _)
def kD (bF:Bool):Nat→List (Nat×Nat×Nat)→List V→(List V→bu)→bu
 | _,_,[],k=>k []
 | r,gs,c::cs,k=>jD bF r gs c fun c'=>kD bF (r+1) gs cs fun cI=>k (c'::cI)
theorem Ref.cq {bF:Bool}: ∀ {cs:List V} {r:Nat} {gs:List (Nat×Nat×Nat)} {k:List V→bu} {k0:List V→Act},(∀v,Ref (k v) (k0 v))→Ref (kD bF r gs cs k) (AM.cq bF r gs cs k0)
 | [],_,_,_,_,h=>h _
 | _::_,_,_,_,_,h=>Ref.bT fun c'=>Ref.cq fun cI=>h _
def oT (bF:Bool) (r:Nat) (gs:List (Nat×Nat×Nat)) (v:V) (k:V→bu):bu:=
 bif V.aC v then k v else
 match v with
 | .agg cs=>kD bF r gs cs fun cI=>k (.agg cI)
 | v=>jD bF r gs v k
theorem Ref.ed {bF:Bool} {r:Nat} {gs:List (Nat×Nat×Nat)} {v:V} {k:V→bu} {k0:V→Act} (h: ∀v,Ref (k v) (k0 v)):Ref (oT bF r gs v k) (AM.ed bF r gs v k0):=by
 unfold oT AM.ed
 cases hp:V.aC v with
 | true=>simpa using h v
 | false=>
   simp only[cond_false,Bool.false_eq_true,if_false]
   cases v
   case agg cs=>exact Ref.cq fun cI=>h _
   all_goals exact Ref.bT h
def p9 (bF:Bool):Nat→List (Nat×Nat×Nat)→List V→(List V→bu)→bu
 | _,_,[],k=>k []
 | r,gs,v::vs,k=>oT bF r gs v fun v'=>p9 bF (r+8) gs vs fun vs'=>k (v'::vs')
theorem Ref.dy {bF:Bool}: ∀ {vs:List V} {r:Nat} {gs:List (Nat×Nat×Nat)} {k:List V→bu} {k0:List V→Act},(∀v,Ref (k v) (k0 v))→Ref (p9 bF r gs vs k) (AM.dy bF r gs vs k0)
 | [],_,_,_,_,h=>h _
 | _::_,_,_,_,_,h=>Ref.ed fun c'=>Ref.dy fun cI=>h _
def gv (bF:Bool) (r:Nat) (gs:List (Nat×Nat×Nat)) (v:V) (k:V→bu):bu:=
 bif V.aC v then k v else
 match v with
 | .tuple vs=>p9 bF r gs vs fun vs'=>k (.tuple vs')
 | v=>oT bF r gs v k
theorem Ref.cg {bF:Bool} {r:Nat} {gs:List (Nat×Nat×Nat)} {v:V} {k:V→bu} {k0:V→Act} (h: ∀v,Ref (k v) (k0 v)):Ref (gv bF r gs v k) (AM.cg bF r gs v k0):=by
 unfold gv AM.cg
 cases hp:V.aC v with
 | true=>simpa using h v
 | false=>
   simp only[cond_false,Bool.false_eq_true,if_false]
   cases v
   case tuple cs=>exact Ref.dy fun cI=>h _
   all_goals exact Ref.ed h
def Eg (E:Env) (f:Nat):List (Option Nat):=match E.fn f with
 | some af=>af.sk
 | none=> []
def vm (E:Env) (r:Nat) (bF:Bool) (f:Nat) (args:List V):bu:=
 hJ ( r+8) args (Eg E f) 0 fun as rs ws=>
  .bS ((apart rs (ws.map (·.r)) &&distinct (ws.map (·.r)))=true) <| .call f as fun ⟨val,outs⟩=>
   match rs with
   | []=>ja ws outs fun gs=>gv bF r gs val .done
   | rs=>bif V.isScalar val &&outs.all (fun o=>V.bn o.2) then ja ws outs fun gs=>gv bF r gs val .done
     else kC rs (ja ws outs fun gs=>gv bF r gs val .done)
theorem Ref.qa {E:Env} {r:Nat} {bF:Bool} {f:Nat} {args:List V}:Ref (vm E r bF f args) (AM.qa E r bF f args):=by
 unfold vm AM.qa
 refine Ref.df fun as rs ws=> ?_
 intro hc
 simp only[hc,if_true]
 refine⟨_,rfl,fun ⟨val,outs⟩=> ?_⟩
 have U4:Ref (ja ws outs fun gs=>gv bF r gs val .done) (AM.cH ws outs fun gs=>AM.cg bF r gs val .done):=
   Ref.cH fun gs=>Ref.cg fun v=>rfl
 cases rs with
 | nil=>
   simp only[cj]
   split<;>exact U4
 | cons a rs=>
   simp only
   cases hb: (V.isScalar val &&outs.all fun o=>V.bn o.2) with
   | true=>simp only[cond_true,if_true];exact U4
   | false=>simp only[cond_false,Bool.false_eq_true,if_false];exact Ref.cj U4
end Go.AM
namespace Go.AM
def qb (d:Nat) (o:Option V) (k:Nat→bu):bu:=match o with
 | none=>k d
 | some (.int _ n)=> .bS (0≤n) (k n.toNat)
 | some _=> .fail
theorem Ref.Ch {d:Nat} {o:Option V} {k:Nat→bu} {a:Act} (h: ∀n,bE d o=some n→Ref (k n) a):Ref (qb d o k) a:=by
 unfold qb
 split
 · exact h _ rfl
 · rename_i K n
   intro h0
   exact h _ (by simp[bE,h0])
 · trivial
def sm:List (Nat×Nat×aP)→(List (Nat×Nat×V)→bu)→bu
 | [],k=>k []
 | (off,sz,x)::ps,k=>eF x fun v=>sm ps fun vs=>k ((off,sz,v)::vs)
theorem Ref.eB: ∀ {ps:List (Nat×Nat×aP)} {k:List (Nat×Nat×V)→bu} {k0:List (Nat×Nat×V)→Act},(∀v,Ref (k v) (k0 v))→Ref (sm ps k) (AM.eB ps k0)
 | [],_,_,h=>h _
 | (_,_,_)::_,_,_,h=>Ref.ev fun v=>Ref.eB fun vs=>h _
def jb:List V→List (Nat×Nat×V)→Option (List V)
 | cs,[]=>some cs
 | cs,(off,sz,v)::rest=>bif iX v sz &&fB cs (off+sz) then jb (match v with
    | .agg vs=>takeN cs off++(vs++nv cs (off+sz))
    | v=>vk cs off v) rest else none
theorem nA: ∀ {ps:List (Nat×Nat×V)} {cs out:List V},jb cs ps=some out→dm cs ps=some out
 | [],cs,out,h=>h
 | (off,sz,v)::rest,cs,out,h=>by
   simp only[jb] at h
   cases hb: (iX v sz &&fB cs (off+sz)) with
   | false=>simp[hb] at h
   | true=>
     simp only[hb,cond_true] at h
     simp only[Bool.and_eq_true] at hb
     have h1:=iM hb.1
     have h2:=j3 hb.2
     simp only[aN,Bool.and_eq_true,beq_iff_eq] at h1
     simp only[dm]
     rw[if_pos ⟨h1.1,h2,h1.2⟩]
     have ih:=nA h
     rw[←ih]
     congr 1
     split
     · rename_i vs
       simp[V.cells,oR,oS]
     · rename_i hn
       have h3:v.cells=[v]:=by cases v<;>simp_all[V.cells]
       have h4:sz=1:=by rw[h3] at h1;simpa using h1.1.symm
       subst h4
       rw[rS,h3]
       simp[List.set_eq_take_append_cons_drop,show off<cs.length by omega]
def oU:List (Nat×aP)→(List (Nat×V)→bu)→bu
 | [],k=>k []
 | (i,x)::ps,k=>eF x fun v=>wx v fun v=>oU ps fun vs=>k ((i,v)::vs)
theorem Ref.dK: ∀ {ps:List (Nat×aP)} {k:List (Nat×V)→bu} {k0:List (Nat×V)→Act},(∀v,Ref (k v) (k0 v))→Ref (oU ps k) (AM.dK ps k0)
 | [],_,_,h=>h _
 | (_,_)::_,_,_,h=>Ref.ev fun v=>Ref.qG fun v'=>Ref.dK fun vs=>h _
def mP (sz:Nat):Nat→List (Nat×V)→Option (List V)
 | _,[]=>some []
 | i,(j,v)::rest=>bif Nat.beq i j &&iX v sz then(match mP sz (i+1) rest with| some vs=>some (v::vs) | none=>none) else none
def fv (sz:Nat):List V→List (Nat×V)→Option (List V)
 | es,[]=>some es
 | es,(i,v)::rest=>bif fB es (i+1) &&iX v sz then fv sz (vk es i v) rest else none
theorem jQ {sz:Nat}: ∀ {ps:List (Nat×V)} {es out:List V},fv sz es ps=some out→b8 sz es ps=some out
 | [],cs,out,h=>h
 | (i,v)::rest,es,out,h=>by
   simp only[fv] at h
   cases hb: (fB es (i+1) &&iX v sz) with
   | false=>simp[hb] at h
   | true=>
     simp only[hb,cond_true] at h
     simp only[Bool.and_eq_true] at hb
     have h1:=iM hb.2
     have h2:=j3 hb.1
     simp only[b8]
     rw[if_pos ⟨by omega,h1⟩,←rS]
     exact jQ h
theorem nY {sz:Nat}: ∀ {ps:List (Nat×V)} {i:Nat} {vs pre es:List V},mP sz i ps=some vs→pre.length=i→es.length=ps.length→b8 sz (pre++es) ps=some (pre++vs)
 | [],i,vs,pre,es,h,hp,he=>by
   simp only[mP,Option.some.injEq] at h
   subst h
   have:es=[]:=by simpa using he
   simp[b8,this]
 | (j,v)::rest,i,vs,pre,es,h,hp,he=>by
   simp only[mP] at h
   cases hb: (Nat.beq i j &&iX v sz) with
   | false=>simp[hb] at h
   | true=>
     simp only[hb,cond_true] at h
     simp only[Bool.and_eq_true] at hb
     have h1:=iM hb.2
     have h2:i=j:=Nat.eq_of_beq_eq_true hb.1
     subst h2
     split at h
     · rename_i vs' hv
       simp only[Option.some.injEq] at h
       subst h
       cases es with
       | nil=>simp at he
       | cons e es=>
         simp only[b8]
         rw[if_pos ⟨by simp;omega,h1⟩]
         have: (pre++e::es).set i v=(pre++[v])++es:=by
          simp[List.set_append,hp]
         rw[this,nY hv (by simp[hp]) (by simpa using he)]
         simp
     · simp at h
def lR (sz:Nat) (x:V) (k:List V→bu):bu:=
 match x with
 | .nils=>k []
 | .lit sz' xs=>bif Nat.beq sz' sz then k xs else .fail
 | .sl r g off len=> .bR r fun ⟨ck,fI,da,ij,gQ⟩=>match gQ with
   | some es=> .ex (List V) (fun ys=>aH es off len=ys) fun ys=> .bS (ck=g∧fI=sz∧off+len≤es.length) (k ys)
   | none=> .fail
 | .str s=>bif Nat.beq sz 1 then k (s.map fun b=> .int .u8 b.toNat) else .fail
 | _=> .fail
theorem Ref.content {sz:Nat} {x:V} {k:List V→bu} {k0:List V→Act} (h: ∀v,Ref (k v) (k0 v)):Ref (lR sz x k) (AM.content sz x k0):=by
 unfold lR AM.content
 cases x
 case nils=>exact h _
 case lit sz' xs=>
  cases hb:Nat.beq sz' sz with
  | true=>obtain rfl:=Nat.eq_of_beq_eq_true hb;simp only[if_true,hb,cond_true];exact h _
  | false=>simp only[hb,cond_false];trivial
 case str s=>
  cases hb:Nat.beq sz 1 with
  | true=>obtain rfl:=Nat.eq_of_beq_eq_true hb;simp only[if_true,hb,cond_true];exact h _
  | false=>simp only[hb,cond_false];trivial
 case sl r g off len=>
  refine⟨_,rfl,fun ⟨gen,sz,arr,fz,es⟩=> ?_⟩
  cases es with
  | none=>trivial
  | some es=>
    rintro ys rfl hc
    try simp only at hc
    simp only[hc,and_self,if_true]
    exact h _
 all_goals trivial
def vn ( r sz lim:Nat) (s:V) (ys:List V):bu:=
 .bS (ys.all (aN · sz)=true) <| bif Nat.ble 1 sz then
 match s with
 | .nils=>match ys with
   | [y]=> .bS (1≤lim) (.lG r fun g=> .bC r {gen:=g,sz,arr:=true,fz:=false,es:=some [y]} (.done (.sl r g 0 1)))
   | ys=> .ite ys.isEmpty (.done .nils) (.bS (ys.length≤lim) (.lG r fun g=> .bC r {gen:=g,sz,arr:=true,fz:=false,es:=some ys} (.done (.sl r g 0 ys.length))))
 | .lit sz' xs=> .bS (ys=[]) (.done (.lit sz' xs))
 | .sl r' g off len=> .bR r' fun ⟨ck,fI,da,ij,gQ⟩=>match gQ with
   | some es=> .bS (ck=g∧da=true∧ij=false∧fI=sz) <| .alt
      (.bS (off=0∧es.length=len∧len+ys.length≤lim) (.all fun g'=> .bC r' {gen:=g',sz,arr:=true,fz:=false,es:=some (es++ys)} (.done (.sl r' g' 0 (len+ys.length)))))
      (.bS (off+len≤es.length∧len+ys.length≤lim) (.ite (decide (off+len+ys.length≤es.length))
        (.bC r' ⟨ck,fI,da,ij,some (overwrite es (off+len) ys)⟩ (.done (.sl r' g off (len+ys.length))))
        (.bC r' ⟨g+1,fI,da,ij,some (aH es off len++ys)⟩ (.done (.sl r' (g+1) 0 (len+ys.length))))))
   | none=> .fail
 | _=> .fail
 else .fail
theorem Ref.append {r sz lim:Nat} {s:V} {ys:List V}:Ref (vn r sz lim s ys) (sf r sz lim s ys):=by
 intro hy
 cases hb:Nat.ble 1 sz with
 | false=>simp only[cond_false];trivial
 | true=>
   have hs:0 <sz:=Nat.le_of_ble_eq_true hb
   have hg: (ys.all (aN · sz) &&decide (0 <sz))=true:=by simp only[Bool.and_eq_true,decide_eq_true_eq];exact⟨hy,hs⟩
   simp only[cond_true,sf,hg,if_true]
   cases s
   case nils=>
    simp only
    split
    · rename_i y
      intro hl
      simp only[List.isEmpty_cons,Bool.false_eq_true,if_false,List.length_cons,List.length_nil,Nat.zero_add,hl,if_true]
      exact⟨_,rfl,fun o=> ⟨_,rfl,rfl⟩⟩
    · refine⟨fun he=> ?_,fun he=> ?_⟩
      · simp only[he,if_true];exact rfl
      ·  intro hl
         simp only[he,Bool.false_eq_true,if_false,hl,if_true]
         exact⟨_,rfl,fun o=> ⟨_,rfl,rfl⟩⟩
   case lit sz' xs=>
    intro he
    simp only[he,List.isEmpty_nil,if_true];exact rfl
   case sl r' g off len=>
    refine⟨_,rfl,fun ⟨gen,sz',arr,fz,es⟩=> ?_⟩
    cases es with
    | none=>trivial
    | some es=>
      intro hc
      obtain⟨rfl,rfl,rfl,rfl⟩:=hc
      refine⟨?_,?_⟩
      ·  rintro⟨rfl,rfl,hl⟩
         simp only[Nat.zero_add,Nat.le_refl,hl,and_self,if_true]
         by_cases hn:ys=[]
         · subst hn
           refine⟨gen,?_⟩
           simp only[List.append_nil,List.length_nil,Nat.add_zero,Nat.le_refl,if_true,overwrite,List.take_length,List.drop_length]
           exact⟨_,rfl,rfl⟩
         · have hp:0 <ys.length:=List.length_pos_iff.2 hn
           refine⟨gen+1,?_⟩
           rw[if_neg (by omega)]
           simp only[aH,List.drop_zero,List.take_length]
           exact⟨_,rfl,rfl⟩
      ·  rintro⟨h1,h2⟩
         simp only[h1,h2,and_self,if_true]
         refine⟨fun hd=> ?_,fun hd=> ?_⟩
         · simp only[decide_eq_true_eq] at hd
           rw[if_pos hd]
           exact⟨_,rfl,rfl⟩
         · simp only[decide_eq_false_iff_not] at hd
           rw[if_neg hd]
           exact⟨_,rfl,rfl⟩
   all_goals trivial
def Hg (op:BinOp) (x y:V):bu:=
 match x,y with
 | .int k a,.int k' b=>
   match op with
   | .shl=> .bS (0≤b) (.done (.int k (k.wrap (a*2 ^ (min b.toNat k.bits)))))
   | .shr=> .bS (0≤b) (.done (.int k (a.fdiv (2 ^ (min b.toNat k.bits)))))
   | .quo=> .bS (k=k'∧b≠0) (.done (.int k (k.wrap (a.tdiv b))))
   | .rem=> .bS (k=k'∧b≠0) (.done (.int k (a.tmod b)))
   | .and=> .bS (k=k') (iZ (jE .and k a b))
   | .or=> .bS (k=k') (iZ (jE .or k a b))
   | .xor=> .bS (k=k') (iZ (jE .xor k a b))
   | .andNot=> .bS (k=k') (iZ (jE .andNot k a b))
   | .add=>bif decide (k=k') then .done (.int k (k.wrap (a+b))) else .fail
   | .sub=>bif decide (k=k') then .done (.int k (k.wrap (a - b))) else .fail
   | .mul=>bif decide (k=k') then .done (.int k (k.wrap (a*b))) else .fail
   | .eql=>bif decide (k=k') then .done (.bool (decide (a=b))) else .fail
   | .neq=>bif decide (k=k') then .done (.bool (!decide (a=b))) else .fail
   | .lss=>bif decide (k=k') then .done (.bool (decide (a<b))) else .fail
   | .leq=>bif decide (k=k') then .done (.bool (decide (a≤b))) else .fail
   | .gtr=>bif decide (k=k') then .done (.bool (decide (b<a))) else .fail
   | .geq=>bif decide (k=k') then .done (.bool (decide (b≤a))) else .fail
 | .str a,.str b=>
   match op with
   | .add=> .bS (a.length+b.length≤9223372036854775807) (.done (.str (a++b)))
   | .eql=> .done (.bool (decide (a=b)))
   | .neq=> .done (.bool (!decide (a=b)))
   | .lss=> .done (.bool (Op.bytesLess a b))
   | .leq=> .done (.bool (Op.bytesLess a b || decide (a=b)))
   | .gtr=> .done (.bool (!(Op.bytesLess a b || decide (a=b))))
   | .geq=> .done (.bool (!Op.bytesLess a b))
   | _=> .fail
 | _,_=> .fail
theorem Ref.Ci {b:Bool} {x:bu} {a:Act} (h:b=true→Ref x a):Ref (bif b then x else .fail) a:=by
 cases b with
 | true=>simpa using h rfl
 | false=>trivial
theorem Ref.bin {op:BinOp} {x y:V}:Ref (Hg op x y) (AM.cM (bY op x y)):=by
 unfold Hg
 split
 · rename_i k a k' b
   split
   case h_1=>intro h;simp[bY,show ¬b< 0 by omega,AM.cM,Ref]
   case h_2=>intro h;simp[bY,show ¬b< 0 by omega,AM.cM,Ref]
   case h_3=>intro h;simp[bY,h.1,h.2,AM.cM,Ref]
   case h_4=>intro h;simp[bY,h.1,h.2,AM.cM,Ref]
   case h_5=>intro h;simp only[bY,h,if_true];exact Ref.eT
   case h_6=>intro h;simp only[bY,h,if_true];exact Ref.eT
   case h_7=>intro h;simp only[bY,h,if_true];exact Ref.eT
   case h_8=>intro h;simp only[bY,h,if_true];exact Ref.eT
   all_goals exact Ref.Ci fun h=>by simp only[decide_eq_true_eq] at h;simp[bY,h,AM.cM,Ref,de,oQ,bne]
 · rename_i a b
   split
   case h_1=>intro h;simp[bY,h,AM.cM,Ref]
   case h_8=>trivial
   all_goals simp[bY,AM.cM,Ref]
 · trivial
def Hh (neg:Bool) (a b:V):bu:=
 match a,b with
 | .nilp,.nilp=> .done (.bool (true !=neg))
 | .nilp,.eptr .. | .nilp,.epk .. | .eptr ..,.nilp| .epk ..,.nilp=> .done (.bool (false !=neg))
 | .epk i z _ 0,.epk i' z' _ 0=> .bS (z=z'∧0 <z) (.done (.bool ((i==i') !=neg)))
 | _,_=> .fail
theorem Ref.Hi {neg:Bool} {a b:V}:Ref (Hh neg a b) (AM.cM ((zz a b).map fun c=> .bool (c !=neg))):=by
 unfold Hh
 split
 all_goals first| exact rfl| trivial| skip
 intro h
 obtain⟨rfl,hz⟩:=h
 simp only[zz,hz,and_self,if_true,Option.map_some]
 exact rfl
def Hj (sz:Nat) (v i:V):bu:=
 match v,i with
 | .sl r g off len,.int _ n=> .bR r fun ⟨ck,fI,da,ij,gQ⟩=> .bS (0≤n∧n<len∧fI=sz∧ck=g) (match off with
   | 0=> .done (.ptr r g n.toNat 0)
   | off=> .done (.ptr r g (off+n.toNat) 0))
 | .lit sz' xs,.int _ n=> .bS (0≤n∧sz'=sz) (.ex V (fun e=>xs[n.toNat]? =some e) fun e=> .done (.eptr e 0))
 | .litk sz' xs,.int _ n=> .bS (0≤n∧sz'=sz∧0 <sz) (.ex V (fun e=>xs[n.toNat]? =some e) fun e=> .done (.epk n.toNat sz e 0))
 | _,_=> .fail
theorem Ref.idx {sz:Nat} {v i:V}:Ref (Hj sz v i) (gu sz v i):=by
 unfold Hj
 split
 · refine⟨_,rfl,fun ⟨gen,sz',arr,fz,es⟩=> ?_⟩
   intro h
   try simp only at h
   simp only[h,and_self,if_true]
   split
   · simp[Ref]
   · exact rfl
 · intro h e he
   simp only[gu,h,and_self,if_true,he]
   exact rfl
 · intro h e he
   obtain⟨h1,rfl,h3⟩:=h
   simp only[gu,h1,h3,and_self,if_true,he]
   exact rfl
 · trivial
def Hk (sz:Nat) (v:V) (l h m:Option V):bu:=
 match m with
 | some mx=> (match v,h with
   | .sl r g off len,some hv=> .bR r fun ⟨ck,fI,da,ij,gQ⟩=>match gQ with
     | some es=> .bS (ck=g∧fI=sz) <| qb 0 l fun l=>qb len (some hv) fun h=>qb 0 (some mx) fun m=> .bS (l≤h∧h≤m∧off+m≤es.length∧m≠l) (.done .any)
     | none=> .fail
   | _,_=> .fail)
 | none=>match v with
   | .sl r g off len=> .bR r fun ⟨ck,fI,da,ij,gQ⟩=>match gQ with
     | some es=> .bS (ck=g∧fI=sz) <| qb 0 l fun l=>qb len h fun h=> .bS (l≤h∧off+h≤es.length) (.done (.sl r g (off+l) (h - l)))
     | none=> .fail
   | .lit sz' xs=> .bS (sz'=sz) <| qb 0 l fun l=>qb xs.length h fun h=> .bS (l≤h∧h≤xs.length) (.ex (List V) (fun ys=>aH xs l (h - l)=ys) fun ys=> .done (.lit sz ys))
   | .nils=>qb 0 l fun l=>qb 0 h fun h=> .bS (l≤h∧h≤0) (.done .nils)
   | _=> .fail
theorem Ref.Yc {sz:Nat} {v:V} {l h m:Option V}:Ref (Hk sz v l h m) (nW sz v l h m):=by
 unfold Hk
 split
 · split
   · rename_i mx _ _ r g off len hv
     refine⟨_,rfl,fun ⟨gen,sz',arr,fz,es⟩=> ?_⟩
     cases es with
     | none=>trivial
     | some es=>
       intro hc
       try simp only at hc
       simp only[hc,and_self,if_true]
       refine Ref.Ch fun l' hl=>Ref.Ch fun h' hh=>Ref.Ch fun m' hm=> ?_
       intro hk
       simp only[hl,hh,hm,hk,and_self,if_true,if_false]
       exact rfl
   · trivial
 · split
   · rename_i r g off len
     refine⟨_,rfl,fun ⟨gen,sz',arr,fz,es⟩=> ?_⟩
     cases es with
     | none=>trivial
     | some es=>
       intro hc
       try simp only at hc
       simp only[hc,and_self,if_true]
       refine Ref.Ch fun l' hl=>Ref.Ch fun h' hh=> ?_
       intro hk
       simp only[hl,hh,hk,and_self,if_true]
       exact rfl
   · rename_i sz' xs
     intro hc
     refine Ref.Ch fun l' hl=>Ref.Ch fun h' hh=> ?_
     rintro hk ys rfl
     simp only[nW,iU,hc,if_true,hl,hh,hk,and_self,AM.cM]
     exact rfl
   · refine Ref.Ch fun l' hl=>Ref.Ch fun h' hh=> ?_
     intro hk
     have h1:bE 0 none=some 0:=rfl
     simp only[nW,iU,hl,hh,h1,hk.1,hk.2,Option.isNone_none,AM.cM,Nat.le_refl,and_self,or_true,if_true]
     exact rfl
   · trivial
def qc (x:V) (lo hi:Option V):bu:=
 match x with
 | .str s=>qb 0 lo fun l=>qb s.length hi fun h=> .bS (l≤h∧h≤s.length) (.done (.str ((s.drop l).take (h - l))))
 | _=> .fail
theorem Ref.dM {x:V} {l h:Option V}:Ref (qc x l h) (AM.cM (eu x l h)):=by
 unfold qc
 split
 · refine Ref.Ch fun l' hl=>Ref.Ch fun h' hh=> ?_
   intro hk
   simp only[eu,hl,hh,hk,and_self,if_true,AM.cM]
   exact rfl
 · trivial
def vp (agg:Bool) (sz r g idx off:Nat) (v:V):bu:=
 .bR r fun ⟨ck,fI,da,ij,gQ⟩=>match gQ with
  | some es=> .bS (ck=g∧ij=false) <| (match da with
    | true=> .ex V (fun e=>es[idx]? =some e) fun e=>Cf agg off sz e v fun e'=> .bC r ⟨ck,fI,da,ij,some (es.set idx e')⟩ (.done (.tuple []))
    | false=>match es,idx with
      | [e],0=>Cf agg off sz e v fun e'=> .bC r ⟨ck,fI,da,ij,some [e']⟩ (.done (.tuple []))
      | es,idx=> .ex V (fun e=>es[idx]? =some e) fun e=>Cf agg off sz e v fun e'=> .bC r ⟨ck,fI,da,ij,some (es.set idx e')⟩ (.done (.tuple [])))
  | none=> .fail
theorem Ref.jC {agg:Bool} {sz r g idx off:Nat} {v:V}:Ref (vp agg sz r g idx off v) (ar.jC agg sz r g idx off v):=by
 unfold vp ar.jC
 simp only[Ef]
 refine⟨_,rfl,fun ⟨gen,sz',arr,fz,es⟩=> ?_⟩
 cases es with
 | none=>trivial
 | some es=>
   intro hc
   try simp only at hc
   simp only[hc,and_self,if_true]
   have Az:Ref (.ex V (fun e=>es[idx]? =some e) fun e=>match hG agg off sz e v with
       | some e'=> .bC r ⟨gen,sz',arr,fz,some (es.set idx e')⟩ (.done (.tuple []))
       | none=> .fail) (match es[idx]? with
         | some e=>match cV agg off sz e v with
           | some e'=> .bC r {gen:=gen,sz:=sz',arr:=arr,fz:=fz,es:=some (es.set idx e')} (.done (.tuple []))
           | none=> .fail
         | none=> .fail):=by
     intro e he
     simp only[he]
     cases hp:hG agg off sz e v with
     | none=>trivial
     | some e'=>simp only[qI hp];exact⟨_,rfl,rfl⟩
   rw[hc.1,hc.2] at Az
   cases arr with
   | true=>exact Az
   | false=>
     simp only
     split
     · rename_i e
       simp only[List.getElem?_cons_zero]
       cases hp:hG agg off sz e v with
       | none=>trivial
       | some e'=>simp only[qI hp];exact⟨_,rfl,rfl⟩
     · exact Az
def qd:List (Nat×aP)→(List (Nat×V)→bu)→bu
 | [],k=>k []
 | (i,x)::ps,k=>eF x fun v=>qd ps fun vs=>k ((i,v)::vs)
theorem Ref.hN: ∀ {ps:List (Nat×aP)} {k:List (Nat×V)→bu} {k0:List (Nat×V)→Act},(∀v,Ref (k v) (k0 v))→Ref (qd ps k) (AM.hN ps k0)
 | [],_,_,h=>h _
 | (i,x)::ps,_,_,h=>Ref.ev fun v=>Ref.hN fun vs=>h _
def yo (r sz:Nat) (zero:V) (n:Nat) (ps:List (Nat×V)):bu:=
 bif iX zero sz &&Nat.ble 1 sz &&Nat.ble (n*sz) 16777216 then(match (bif eC ps n then mP sz 0 ps else none) with
  | some es=> .lG r fun g=> .bC r {gen:=g,sz,arr:=true,fz:=false,es:=some es} (.done (.sl r g 0 n))
  | none=>match fv sz (List.replicate n zero) ps with
    | some es=> .lG r fun g=> .bC r {gen:=g,sz,arr:=true,fz:=false,es:=some es} (.done (.sl r g 0 n))
    | none=> .fail) else .fail
def Ux (E:Env):pP→bu
 | .move x=>eF x .done
 | .pick c a b=>eF c fun| .bool c=> .ite c (eF a .done) (eF b .done) | _=> .fail
 | .new r sz x=>eF x fun v=>bif iX v sz &&Nat.ble 1 sz then .lG r fun g=> .bC r {gen:=g,sz,arr:=false,fz:=false,es:=some [v]} (.done (.ptr r g 0 0)) else .fail
 | .build cells parts=>sm parts fun ps=>match jb cells ps with
   | some cs=>force cs fun cs=> .done (.agg cs)
   | none=> .fail
 | .buildSlice r sz zero n parts=>oU parts fun ps=>bif iX zero sz &&Nat.ble 1 sz &&Nat.ble (n*sz) 16777216 then(match (bif eC ps n then mP sz 0 ps else none) with
   | some es=> .lG r fun g=> .bC r {gen:=g,sz,arr:=true,fz:=false,es:=some es} (.done (.sl r g 0 n))
   | none=>match fv sz (List.replicate n zero) ps with
     | some es=> .lG r fun g=> .bC r {gen:=g,sz,arr:=true,fz:=false,es:=some es} (.done (.sl r g 0 n))
     | none=> .fail) else .fail
 | .bU r sz=>bif Nat.ble 1 sz then .lG r fun g=> .bC r {gen:=g,sz,arr:=true,fz:=false,es:=some []} (.done (.sl r g 0 0)) else .fail
 | .il r x=>eF x fun
   | .sl r1 g off len=>bif Nat.beq r1 r then .done (.sl r1 g off len) else .bR r1 fun ⟨ck,fI,da,ij,gQ⟩=> .bS (ck=g) (.lG r fun g'=>
       .bC r ⟨g',fI,da,ij,gQ⟩ (.bC r1 ⟨ck+1,fI,da,ij,none⟩ (.done (.sl r g' off len))))
   | v=> .done v
 | .makeSlice r sz bytes zero len cap=>eF len fun l=>eF cap fun c=>match l,c with
   | .int _ n,.int _ m=> .bS (0≤n∧n≤m∧m*bytes≤140737488355328∧aN zero sz=true∧0 <sz∧m≤9223372036854775807)
       (.lG r fun g=> .bC r {gen:=g,sz,arr:=true,fz:=false,es:=some (List.replicate m.toNat zero)} (.done (.sl r g 0 n.toNat)))
   | _,_=> .fail
 | .load agg sz x=>eF x fun
   | .ptr r g idx off=> .bR r fun ⟨ck,fI,da,ij,gQ⟩=>match gQ with
     | some es=> .bS (ck=g) (match da with
       | true=> .ex V (fun e=>es[idx]? =some e) fun e=>ny agg off sz e
       | false=>match es,idx with
         | [e],0=>ny agg off sz e
         | es,idx=> .ex V (fun e=>es[idx]? =some e) fun e=>ny agg off sz e)
     | none=> .fail
   | .eptr e off=>ny agg off sz e
   | .epk _ _ e off=>ny agg off sz e
   | _=> .fail
 | .store agg sz x v=>eF x fun
   | .ptr r g idx off=> .bR r fun ⟨ck,fI,da,ij,gQ⟩=>match da with
     | true=>eF v fun v=>wx v fun v=>vp agg sz r g idx off v
     | false=>eF v fun v=>vp agg sz r g idx off v
   | _=> .fail
 | .nilCheck x=>eF x fun
   | .ptr r g idx off=> .done (.ptr r g idx off)
   | .eptr e off=> .done (.eptr e off)
   | .epk i z e off=> .done (.epk i z e off)
   | .fn f caps=> .done (.fn f caps)
   | _=> .fail
 | .bin op x y=>eF x fun a=>eF y fun b=>Hg op a b
 | .L3 neg x y=>eF x fun a=>eF y fun b=>match a,b with
   | .bool a,.bool b=> .done (.bool ((a==b) !=neg))
   | _,_=> .fail
 | .D6 neg ks x y=>eF x fun a=>eF y fun b=>match a,b with
   | .agg as,.agg bs=>match eA ks as bs with
       | some b=> .done (.bool (b !=neg))
       | none=> .fail
   | _,_=> .fail
 | .un op x=>eF x fun a=>iZ (yk op a)
 | .iF k x=>eF x fun| .int _ n=> .done (.int k (k.wrap n)) | _=> .fail
 | .qe x=>eF x fun| .int _ n=> .done (.float (FloatKind.f64.nearest n)) | _=> .fail
 | .qf k x=>eF x fun
   | .float b=> .ex Int (fun n=> (FloatKind.f64.decode b).toInt .zero=some n∧k.min≤n∧n≤k.max) fun n=> .done (.int k n)
   | _=> .fail
 | .oV x=>eF x fun| .str s=> .done (.str s) | _=> .fail
 | .b6 t x=>eF x fun v=> .done (.iface t v)
 | .assert t ok zero x=>eF x fun
   | .nili=>match ok with| true=> .done (.tuple [zero,.bool false]) | false=> .fail
   | .iface t' v=>bif Nat.beq t' t then(match ok with| true=> .done (.tuple [v,.bool true]) | false=> .done v) else(match ok with| true=> .done (.tuple [zero,.bool false]) | false=> .fail)
   | _=> .fail
 | .im f caps=>Aw caps fun vs=> .done (.fn f vs)
 | .dM x lo hi=>eF x fun v=>Ax lo fun l=>Ax hi fun h=>qc v l h
 | .slice sz x lo hi mx=>eF x fun v=>Ax lo fun l=>Ax hi fun h=>Ax mx fun m=>Hk sz v l h m
 | .fieldAddr off x=>eF x fun
   | .ptr r g idx o=> .done (.ptr r g idx (o+off))
   | .eptr e o=> .done (.eptr e (o+off))
   | .epk i z e o=> .done (.epk i z e (o+off))
   | _=> .fail
 | .field agg off sz x=>eF x fun
   | .agg cs=>ny agg off sz (.agg cs)
   | _=> .fail
 | .indexAddr sz x i=>eF x fun v=>eF i fun i=>Hj sz v i
 | .aR n sz x i=>eF x fun v=>eF i fun i=>match v,i with
   | .ptr r g idx off,.int _ j=> .bS (0≤j∧j<n) (.done (.ptr r g idx (off+j.toNat*sz)))
   | .eptr e off,.int _ j=> .bS (0≤j∧j<n) (.done (.eptr e (off+j.toNat*sz)))
   | _,_=> .fail
 | .cf x i=>eF x fun v=>eF i fun i=>match v,i with
   | .str s,.int _ n=> .bS (0≤n) (.ex UInt8 (fun b=>s[n.toNat]? =some b) fun b=> .done (.int .u8 b.toNat))
   | _,_=> .fail
 | .lS agg n sz x i=>eF x fun v=>eF i fun i=>match i with
   | .int _ j=> .bS (0≤j∧j<n∧v.isAgg=true) (.ex V (fun e=>part agg (j.toNat*sz) sz v=some e) fun e=> .done e)
   | _=> .fail
 | .len x=>eF x fun v=>iZ (nj v)
 | .dN x=>eF x fun| .str s=> .done (.int .i64 s.length) | _=> .fail
 | .min xs=>Aw xs fun vs=>iZ (gm min2 vs)
 | .max xs=>Aw xs fun vs=>iZ (gm max2 vs)
 | .append r sz lim s x=>eF s fun s=>eF x fun x=>lR sz x fun ys=>Cg ys fun ys=>vn r sz lim s ys
 | .copy sz d s=>eF d fun d=>eF s fun s=>lR sz s fun ys=>match d with
   | .nils=> .done (.int .i64 0)
   | .sl r g off len=> .bR r fun ⟨ck,fI,da,ij,gQ⟩=>match gQ with
     | some es=>
       .bS (ck=g∧da=true∧ij=false∧fI=sz∧off+len≤es.length∧(ys.take len).all (aN · sz)=true)
         (.bC r ⟨ck,fI,da,ij,some (overwrite es off (ys.take len))⟩ (.done (.int .i64 (ys.take len).length)))
     | none=> .fail
   | _=> .fail
 | .clear sz zero x=>eF x fun
   | .nils=> .done (.tuple [])
   | .sl r g off len=> .bR r fun ⟨ck,fI,da,ij,gQ⟩=>match gQ with
     | some es=> .bS (ck=g∧da=true∧ij=false∧fI=sz∧off+len≤es.length∧aN zero sz=true)
         (.bC r ⟨ck,fI,da,ij,some (overwrite es off (List.replicate len zero))⟩ (.done (.tuple [])))
     | none=> .fail
   | _=> .fail
 | .extract x i=>eF x fun
   | .tuple vs=>iZ (nth vs i)
   | _=> .fail
 | .call r bF f args=>eF f fun
   | .fn f caps=>Aw args fun as=>vm E r bF f (as++caps)
   | _=> .fail
 | .fC i r sz zero n parts=>eF (.tmp i) fun
   | .int _ j=>oU parts fun ps=>yo (r+16*j.toNat) sz zero n ps
   | _=> .fail
 | .fD r sz zero n parts=>qd parts fun ps=>yo r sz zero n ps
 | .kE r sz lim s x=>eF s fun s=>eF x fun x=>lR sz x fun ys=>vn r sz lim s ys
 | .deep x=>eF x fun v=> .Mz (kF v)
 | .qJ ks agg sz x=>eF x fun
   | .ptr r g idx off=> .bR r fun ⟨ck,fI,da,ij,gQ⟩=>match gQ with
     | some es=> .bS (ck=g) (match es,idx with
       | [e],0=>iZ ((si agg off sz e).map (ya ks))
       | _,_=> .fail)
     | none=> .fail
   | _=> .fail
 | .mkMap r=> .lG r fun g=> .bC r {gen:=g,sz:=0,arr:=false,fz:=false,es:=some []} (.done (.mp r g))
 | .lT q x k v=>eF x fun
   | .mp r g=>eF k fun k=>eF v fun v=>wx v fun v=> .bR r fun ⟨ck,fI,da,ij,gQ⟩=>match gQ with
     | some es=> .bS (ck=g∧fI=0∧ij=false∧isKey q k=true∧v.cX=true) (.ex (List V) (fun es'=>lU k v es=some es') fun es'=>
         .bC r ⟨ck,fI,da,ij,some es'⟩ (.done (.tuple [])))
     | none=> .fail
   | _=> .fail
 | .qg q ok zero x k=>eF x fun x=>eF k fun k=> .bS (isKey q k=true) (match x with
   | .mp r g=> .bR r fun ⟨ck,fI,da,ij,gQ⟩=>match gQ with
     | some es=> .bS (ck=g∧fI=0) (.ex V (fun v=>iG ok zero es k= .done v) fun v=> .done v)
     | none=> .fail
   | .mlit es=> .ex V (fun v=>iG ok zero es k= .done v) fun v=> .done v
   | _=> .fail)
 | .yp x=>eF x fun v=> (match v with
   | .fn .. =>ik 5 v fun v' rs=>kC rs (.done v')
   | _=>wx v .done)
 | .mQ r x=>eF x fun
   | .str s=> .lG r fun g=> .bC r {gen:=g,sz:=0,arr:=false,fz:=false,es:=some [.str s,.int .i64 0]} (.done (.it r g))
   | _=> .fail
 | .mR x=>  eF x fun
   | .it r g=> .bR r fun ⟨ck,fI,da,ij,gQ⟩=>match gQ with
     | some [.str s,.int .i64 p]=> .bS (ck=g∧fI=0∧ij=false) (.ite (decide (p.toNat<s.length))
         (.bC r ⟨ck,fI,da,ij,some [.str s,.int .i64 ((p.toNat+(Utf8.decode ⟨s.toArray⟩ p.toNat).2:Nat):Int)]⟩
           (.done (.tuple [.bool true,.int .i64 (p.toNat:Int),.int .i32 ((Utf8.decode ⟨s.toArray⟩ p.toNat).1:Int)])))
         (.done (.tuple [.bool false])))
     | _=> .fail
   | _=> .fail
 | .L4 neg ks x y=>eF x fun a=>eF y fun b=>match a,b with
   | .iface t p,.iface t' q=>bif Nat.beq t t' then(match nZ t ks with
       | some k=> (match tT k p q with
         | some b=> .done (.bool (b !=neg))
         | none=> .fail)
       | none=> .fail) else .fail
   | .nili,.iface _ _=> .done (.bool neg)
   | .iface _ _,.nili=> .done (.bool neg)
   | _,_=> .fail
 | .Hi neg x y=>eF x fun a=>eF y fun b=>Hh neg a b
 | .mapIter r x=>eF x fun
   | .mlit es=> .lG r fun g=> .bC r {gen:=g,sz:=0,arr:=false,fz:=false,es:=some [.mlit es]} (.done (.it r g))
   | _=> .fail
 | .bad=> .fail
theorem Ref.Gl {r sz:Nat} {zero:V} {n:Nat} {ps:List (Nat×V)}:Ref (yo r sz zero n ps) (match b8 sz (List.replicate n zero) ps with
   | some es=>if aN zero sz &&decide (0 <sz∧n*sz≤16777216) then AM.Act.bR r fun o=>AM.Act.bC r {gen:=o.gen+1,sz,arr:=true,fz:=false,es:=some es} (.done (.sl r (o.gen+1) 0 n)) else AM.Act.fail
   | none=>AM.Act.fail):=by
 refine Ref.Ci fun h=> ?_
 simp only[Bool.and_eq_true] at h
 have h1:=iM h.1.1
 have h2:0 <sz:=Nat.le_of_ble_eq_true h.1.2
 have h3:n*sz≤16777216:=Nat.le_of_ble_eq_true h.2
 split
 · rename_i es he
   have hl:eC ps n=true:=by
     cases hb:eC ps n with
     | true=>rfl
     | false=>simp[hb] at he
   simp only[hl,cond_true] at he
   have h4:=nY (pre:=[]) (es:=List.replicate n zero) he rfl (by simp[iW hl])
   simp only[List.nil_append] at h4
   simp only[h4,h1,h2,h3,and_self,decide_true,Bool.and_self,if_true]
   exact⟨_,rfl,fun o=> ⟨_,rfl,rfl⟩⟩
 · cases hf:fv sz (List.replicate n zero) ps with
   | none=>trivial
   | some es=>
     simp only[jQ hf,h1,h2,h3,and_self,decide_true,Bool.and_self,if_true]
     exact⟨_,rfl,fun o=> ⟨_,rfl,rfl⟩⟩
theorem Ref.op {E:Env} {o:pP}:Ref (Ux E o) (ar E o):=by
 cases o with
 | fC i r sz zero n parts=>
   refine⟨_,rfl,fun v=> ?_⟩
   cases v<;>first| trivial| skip
   exact Ref.dK fun ps=>Ref.Gl
 | fD r sz zero n parts=>exact Ref.hN fun ps=>Ref.Gl
 | mkMap r=>exact⟨_,rfl,fun o=> ⟨_,rfl,rfl⟩⟩
 | mQ r x=>
   refine Ref.ev fun v=> ?_
   cases v<;>first| trivial| exact⟨_,rfl,fun o=> ⟨_,rfl,rfl⟩⟩
 | mR x=>
   refine Ref.ev fun v=> ?_
   cases v<;>first| trivial| skip
   refine⟨_,rfl,fun ⟨gen,sz,arr,fz,es⟩=> ?_⟩
   simp only
   split
   · intro hc
     obtain⟨rfl,rfl,rfl⟩:=hc
     simp only[and_self,if_true]
     refine⟨fun he=> ?_,fun he=> ?_⟩
     · rw[if_pos (by simpa using he)];exact⟨_,rfl,rfl⟩
     · rw[if_neg (by simpa using he)];exact rfl
   · trivial
 | yp x=>
   refine Ref.ev fun v=> ?_
   cases v with
   | fn f caps=>exact Ref.eG fun v' rs=>Ref.cj rfl
   | _=>exact Ref.qG fun v=>rfl
 | lT q x k v=>
   refine Ref.ev fun x=> ?_
   cases x<;>first| trivial| skip
   refine Ref.ev fun k=>Ref.ev fun v=>Ref.qG fun v=> ⟨_,rfl,fun ⟨gen,sz,arr,fz,es⟩=> ?_⟩
   cases es with
   | none=>trivial
   | some es=>
     rintro hc es' he
     simp only[hc,he,and_self,if_true]
     exact⟨_,by simp[hc],rfl⟩
 | qg q ok zero x k=>
   refine Ref.ev fun x=>Ref.ev fun k=> ?_
   intro hk
   simp only[hk,if_true]
   cases x<;>first| trivial| skip
   case mp r g=>
     refine⟨_,rfl,fun ⟨gen,sz,arr,fz,es⟩=> ?_⟩
     cases es with
     | none=>trivial
     | some es=>
       rintro hc v hv
       show (if gen=g∧sz=0 then iG ok zero es k else Act.fail)= .done v
       rw[if_pos hc]
       exact hv
   case mlit es=>
     rintro v hv
     exact hv
 | kE r sz lim s x=>exact Ref.ev fun s=>Ref.ev fun x=>Ref.content fun ys=>Ref.append
 | deep=>exact Ref.ev fun v=>rfl
 | qJ ks agg sz x=>
   refine Ref.ev fun v=> ?_
   cases v<;>first| trivial| skip
   case ptr r g idx off=>
     refine⟨_,rfl,fun ⟨gen,sz',arr,fz,es⟩=> ?_⟩
     cases es with
     | none=>trivial
     | some es=>
       intro hc
       try simp only at hc
       simp only[hc,if_true]
       split
       · simp only[List.getElem?_cons_zero]
         exact Ref.cM fun v hv=>by
          obtain⟨v0,h0,rfl⟩:=Option.map_eq_some_iff.1 hv
          rw[iY h0];rfl
       · trivial
 | move x=>exact Ref.ev fun v=>rfl
 | pick c a b=>
   refine Ref.ev fun v=> ?_
   cases v
   case bool c=>cases c with
     | true=>exact⟨fun _=>Ref.ev (fun v=>rfl),fun h=> (by cases h)⟩
     | false=>exact⟨fun h=> (by cases h),fun _=>Ref.ev (fun v=>rfl)⟩
   all_goals trivial
 | new r sz x=>
   refine Ref.ev fun v=>Ref.Ci fun h=> ?_
   simp only[Bool.and_eq_true] at h
   have h1:=iM h.1
   have h2:0 <sz:=Nat.le_of_ble_eq_true h.2
   simp only[h1,h2,decide_true,Bool.and_self,if_true]
   exact⟨_,rfl,fun o=> ⟨_,rfl,rfl⟩⟩
 | build cells parts=>
   refine Ref.eB fun ps=> ?_
   cases hf:jb cells ps with
   | none=>trivial
   | some cs=>simp only[nA hf,force_eq];exact rfl
 | buildSlice r sz zero n parts=>
   refine Ref.dK fun ps=>Ref.Ci fun h=> ?_
   simp only[Bool.and_eq_true] at h
   have h1:=iM h.1.1
   have h2:0 <sz:=Nat.le_of_ble_eq_true h.1.2
   have h3:n*sz≤16777216:=Nat.le_of_ble_eq_true h.2
   split
   · rename_i es he
     have hl:eC ps n=true:=by
       cases hb:eC ps n with
       | true=>rfl
       | false=>simp[hb] at he
     simp only[hl,cond_true] at he
     have h4:=nY (pre:=[]) (es:=List.replicate n zero) he rfl (by simp[iW hl])
     simp only[List.nil_append] at h4
     simp only[h4,h1,h2,h3,and_self,decide_true,Bool.and_self,if_true]
     exact⟨_,rfl,fun o=> ⟨_,rfl,rfl⟩⟩
   · cases hf:fv sz (List.replicate n zero) ps with
     | none=>trivial
     | some es=>
       simp only[jQ hf,h1,h2,h3,and_self,decide_true,Bool.and_self,if_true]
       exact⟨_,rfl,fun o=> ⟨_,rfl,rfl⟩⟩
 | bU r sz=>
   refine Ref.Ci fun h=> ?_
   have h2:0 <sz:=Nat.le_of_ble_eq_true h
   simp only[ar,h2,if_true]
   exact⟨_,rfl,fun o=> ⟨_,rfl,rfl⟩⟩
 | il r x=>
   refine Ref.ev fun v=> ?_
   cases v
   case sl r1 g off len=>
     cases hb:Nat.beq r1 r with
     | true=>
       obtain rfl:=Nat.eq_of_beq_eq_true hb
       simp only[if_true,hb,cond_true]
       exact rfl
     | false=>
       have:r1≠r:=Nat.ne_of_beq_eq_false hb
       simp only[hb,cond_false,this,if_false]
       refine⟨_,rfl,fun ⟨gen,sz',arr,fz,es⟩=> ?_⟩
       intro hg
       have U5:gen=g:=hg
       subst U5
       simp only[if_true]
       exact⟨_,rfl,fun o=> ⟨_,rfl,_,rfl,rfl⟩⟩
   all_goals exact rfl
 | makeSlice r sz bytes zero len cap=>
   refine Ref.ev fun l=>Ref.ev fun c=> ?_
   cases l<;>first| trivial| skip
   cases c<;>first| trivial| skip
   intro h
   simp only[h,and_self,if_true]
   exact⟨_,rfl,fun o=> ⟨_,rfl,rfl⟩⟩
 | load agg sz x=>
   refine Ref.ev fun v=> ?_
   cases v<;>first| trivial| skip
   case ptr r g idx off=>
     refine⟨_,rfl,fun ⟨gen,sz',arr,fz,es⟩=> ?_⟩
     cases es with
     | none=>trivial
     | some es=>
       intro hc
       try simp only at hc
       simp only[hc,if_true]
       have Az:Ref (.ex V (fun e=>es[idx]? =some e) fun e=>ny agg off sz e) (match es[idx]? with
         | some e=>AM.cM (part agg off sz e)
         | none=> .fail):=by
         intro e he
         simp only[he]
         rw[lQ];exact Ref.cM fun v hv=>iY hv
       cases arr with
       | true=>exact Az
       | false=>
         simp only
         split
         · rw[lQ];exact Ref.cM fun v hv=>iY hv
         · exact Az
   case eptr e off=>simp only[lQ];exact Ref.cM fun v hv=>iY hv
   case epk i z e off=>simp only[lQ];exact Ref.cM fun v hv=>iY hv
 | store agg sz x v=>
   refine Ref.ev fun v=> ?_
   cases v<;>first| trivial| skip
   refine⟨_,rfl,fun ⟨gen,sz',arr,fz,es⟩=> ?_⟩
   cases arr with
   | true=>exact Ref.ev fun v=>Ref.qG fun v=>Ref.jC
   | false=>exact Ref.ev fun v=>Ref.jC
 | nilCheck x=>exact Ref.ev fun v=>by cases v<;>first| trivial| exact rfl
 | bin op x y=>exact Ref.ev fun a=>Ref.ev fun b=>Ref.bin
 | L3 neg x y=>
   refine Ref.ev fun a=>Ref.ev fun b=> ?_
   cases a<;>first| trivial| skip
   cases b<;>first| trivial| exact rfl
 | D6 neg ks x y=>
   refine Ref.ev fun a=>Ref.ev fun b=> ?_
   cases a<;>first| trivial| skip
   cases b<;>first| trivial| skip
   rename_i as bs
   simp only
   cases eA ks as bs with
   | none=>trivial
   | some b=>exact rfl
 | un op x=>exact Ref.ev fun a=>Ref.eT
 | iF k x=>exact Ref.ev fun v=>by cases v<;>first| trivial| exact rfl
 | qe x=>exact Ref.ev fun v=>by cases v<;>first| trivial| exact rfl
 | qf k x=>
   refine Ref.ev fun v=> ?_
   cases v<;>first| trivial| skip
   rintro n ⟨h1,h2,h3⟩
   simp only[h1,h2,h3,and_self,if_true]
   exact rfl
 | oV x=>exact Ref.ev fun v=>by cases v<;>first| trivial| exact rfl
 | b6 t x=>exact Ref.ev fun v=>rfl
 | assert t ok zero x=>
   refine Ref.ev fun v=> ?_
   cases v<;>first| trivial| skip
   case nili=>cases ok<;>first| trivial| exact rfl
   case iface t' v=>
     cases hb:Nat.beq t' t with
     | true=>
       have:=Nat.eq_of_beq_eq_true hb
       cases ok<;>simp[hb,this,Ref]
     | false=>
       have:t'≠t:=Nat.ne_of_beq_eq_false hb
       cases ok<;>simp[hb,this,Ref]
 | im f caps=>exact Ref.uq fun v=>rfl
 | dM x lo hi=>exact Ref.ev fun v=>Ref.tJ fun l=>Ref.tJ fun h=>Ref.dM
 | slice sz x lo hi mx=>
   rw[mO]
   exact Ref.ev fun v=>Ref.tJ fun l=>Ref.tJ fun h=>Ref.tJ fun m=>Ref.Yc
 | fieldAddr off x=>exact Ref.ev fun v=>by cases v<;>first| trivial| exact rfl
 | field agg off sz x=>
   refine Ref.ev fun v=> ?_
   cases v<;>first| trivial| skip
   rename_i cs
   show Ref (ny agg off sz (V.agg cs)) (AM.cM (part agg off sz (V.agg cs)))
   rw[lQ]
   exact Ref.cM fun v hv=>iY hv
 | indexAddr sz x i=>
   rw[gO]
   exact Ref.ev fun v=>Ref.ev fun i=>Ref.idx
 | aR n sz x i=>
   refine Ref.ev fun v=>Ref.ev fun i=> ?_
   cases v<;>first| trivial| skip
   all_goals
     cases i<;>first| trivial| skip
     intro h
     simp only[h,and_self,if_true]
     exact rfl
 | cf x i=>
   refine Ref.ev fun v=>Ref.ev fun i=> ?_
   cases v<;>first| trivial| skip
   cases i<;>first| trivial| skip
   intro h b hb
   simp only[h,if_true,hb]
   exact rfl
 | lS agg n sz x i=>
   refine Ref.ev fun v=>Ref.ev fun i=> ?_
   cases i<;>first| trivial| skip
   intro h e he
   simp only[h,and_self,if_true,he]
   exact rfl
 | len x=>exact Ref.ev fun v=>Ref.eT
 | dN x=>exact Ref.ev fun v=>by cases v<;>first| trivial| exact rfl
 | min xs=>exact Ref.uq fun vs=>Ref.eT
 | max xs=>exact Ref.uq fun vs=>Ref.eT
 | append r sz lim s x=>
   rw[kx]
   exact Ref.ev fun s=>Ref.ev fun x=>Ref.content fun ys=>Ref.fK fun ys=>Ref.append
 | copy sz d s=>
   refine Ref.ev fun d=>Ref.ev fun s=>Ref.content fun ys=> ?_
   cases d<;>first| trivial| exact rfl| skip
   refine⟨_,rfl,fun ⟨gen,sz',arr,fz,es⟩=> ?_⟩
   cases es with
   | none=>trivial
   | some es=>
     intro hc
     try simp only at hc
     simp only[hc,and_self,if_true]
     exact⟨_,by simp[hc],rfl⟩
 | clear sz zero x=>
   refine Ref.ev fun d=> ?_
   cases d<;>first| trivial| exact rfl| skip
   refine⟨_,rfl,fun ⟨gen,sz',arr,fz,es⟩=> ?_⟩
   cases es with
   | none=>trivial
   | some es=>
     intro hc
     try simp only at hc
     simp only[hc,and_self,if_true]
     exact⟨_,by simp[hc],rfl⟩
 | extract x i=>
   refine Ref.ev fun v=> ?_
   cases v<;>first| trivial| skip
   simp only[yn]
   exact Ref.eT
 | call r bF f args=>
   refine Ref.ev fun v=> ?_
   cases v<;>first| trivial| skip
   rename_i f caps
   exact Ref.uq fun as=>Ref.qa
 | L4 neg ks x y=>
   refine Ref.ev fun a=>Ref.ev fun b=> ?_
   cases a<;>first| trivial| skip
   case nili=>cases b<;>first| trivial| exact rfl
   case iface t p=>
     cases b<;>first| trivial| exact rfl| skip
     rename_i t' q
     cases hb:Nat.beq t t' with
     | true=>
       have:=Nat.eq_of_beq_eq_true hb
       subst this
       simp only[hb,cond_true,if_true]
       cases nZ t ks with
       | none=>trivial
       | some k=>
         simp only
         cases tT k p q with
         | none=>trivial
         | some b=>exact rfl
     | false=>simp only[hb,cond_false];trivial
 | Hi neg x y=>exact Ref.ev fun a=>Ref.ev fun b=>Ref.Hi
 | mapIter r x=>
   refine Ref.ev fun v=> ?_
   cases v<;>first| trivial| exact⟨_,rfl,fun o=> ⟨_,rfl,rfl⟩⟩
 | bad=>trivial
end Go.AM
namespace Go.AM
def zA (E:Env) (o:bq):bu:=match o.guard with
 | none=>Ux E o.op
 | some (t,want)=> .lE t fun
   | .bool b=> (match want with
     | true=> .ite b (Ux E o.op) (.done dp)
     | false=> .ite b (.done dp) (Ux E o.op))
   | .tuple []=> .done dp
   | _=> .fail
theorem Ref.oper {E:Env} {o:bq}:Ref (zA E o) (dr E o):=by
 unfold zA dr
 cases o.guard with
 | none=>exact Ref.op
 | some p=>
   obtain⟨t,want⟩:=p
   refine⟨_,rfl,fun v=> ?_⟩
   cases v<;>first| trivial| skip
   case bool b=>cases b<;>cases want<;>simp[Ref,Ref.op]
   case tuple vs=>cases vs with
    | nil=>exact rfl
    | cons=>trivial
def AA (E:Env):List bq→SS→(SS→Prop)→Prop
 | [],S,Q=>Q S
 | o::os,S,Q=>eS E (zA E o) S fun v S' _ _=>match S' with
   | ⟨T,O⟩=>match o.dst with
     | some d=>AA E os ⟨(d,v)::T,O⟩ Q
     | none=>AA E os ⟨T,O⟩ Q
def AB (E:Env):List bq→SS→(List dZ→SS→Prop)→Prop
 | [],S,Q=>Q [] S
 | o::os,S,Q=>eS E (zA E o) S fun v S' r w=>match S' with
   | ⟨T,O⟩=>match o.dst with
     | some d=>AB E os ⟨(d,v)::T,O⟩ fun fs Hl=>Q (⟨r,.t d::w⟩::fs) Hl
     | none=>AB E os ⟨T,O⟩ fun fs Hl=>Q (⟨r,w⟩::fs) Hl
section
variable {E:Env}
theorem yq {a:Act} {σ:St} {Q:V→St→Prop} (h:oD E a σ fun v σ' _ _=>Q v σ'):pU E a σ Q:=by
 obtain⟨n,v,σ',h1,h2⟩:=h
 exact⟨n,v,σ',h1,h2⟩
theorem n0: ∀ {os:List bq} {S:SS} {Q:SS→Prop} {σ:St},AA E os S Q→S.On σ→Ed E os σ fun σ'=> ∃S',S'.On σ'∧Q S'
 | [],S,Q,σ,h,ho=>by rw[rO];exact⟨S,ho,h⟩
 | o::os,S,Q,σ,h,ho=>by
   rw[oG]
   refine yq (lP (cN Ref.oper h ho) ?_)
   rintro v σ' r w ⟨⟨T,O⟩,tV,h'⟩
   have hp:=tV.put o.dst v
   cases hd:o.dst with
   | none=>simp only[hd] at h' hp ⊢;exact n0 h' hp
   | some d=>simp only[hd] at h' hp ⊢;exact n0 h' hp
theorem n9: ∀ {os:List bq} {S:SS} {Q:List dZ→SS→Prop} {σ:St},AB E os S Q→S.On σ→Mx E os σ fun fs σ'=> ∃S',S'.On σ'∧Q fs S'
 | [],S,Q,σ,h,ho=>by rw[rR];exact⟨S,ho,h⟩
 | o::os,S,Q,σ,h,ho=>by
   rw[oO]
   refine lP (cN Ref.oper h ho) ?_
   rintro v σ' r w ⟨⟨T,O⟩,tV,h'⟩
   have hp:=tV.put o.dst v
   cases hd:o.dst with
   | none=>simp only[hd] at h' hp ⊢;exact n9 h' hp
   | some d=>simp only[hd] at h' hp ⊢;exact n9 h' hp
def thenS (Q:aY→SS→Prop) (k:SS→Prop):aY→SS→Prop
 | .normal,S=>k S
 | .exit id,S=>Q (.exit id) S
 | .ret,S=>Q .ret S
def Cj (id:Nat) (Q:aY→SS→Prop):aY→SS→Prop
 | .exit jv,S=>bif Nat.beq jv id then Q .normal S else Q (.exit jv) S
 | .normal,S=>Q .normal S
 | .ret,S=>Q .ret S
structure ba (E:Env) (b:al) (S:SS) (Q:aY→SS→Prop):Prop where
 h: ∀σ,S.On σ→lF E (.loop b) σ fun e σ'=> ∃S',S'.On σ'∧Q e S'
structure Ck (E:Env) (it nx ne id:Nat) (kT kO:List Nat) (h0 b l:al) (S:SS) (Q:aY→SS→Prop):Prop where
 h: ∀σ,S.On σ→lF E (.keys it nx ne id kT kO h0 b l) σ fun e σ'=> ∃S',S'.On σ'∧Q e S'
structure yr (E:Env) (x:aP) (ps:List Nat) (a b:al) (S:SS) (Q:aY→SS→Prop):Prop where
 h: ∀σ,S.On σ→lF E (.nU x ps a b) σ fun e σ'=> ∃S',S'.On σ'∧Q e S'
def oE (E:Env):al→SS→(aY→SS→Prop)→Prop
 | .skip,S,Q=>Q .normal S
 | .region ops,S,Q=>AA E ops S (Q .normal)
 | .drawn ops,S,Q=>AB E ops S fun fs S'=>dC (Gj (ops.map (·.pre)) [] [] fs=true) (Q .normal S')
 | .seq a b,S,Q=>oE E a S (thenS Q fun S'=>oE E b S' Q)
 | .cond c a b,S,Q=>match c with
   | .tmp t=> (match lk S.T t with
     | some (.bool c)=>Br c (oE E a S Q) (oE E b S Q)
     | _=>False)
   | .const (.bool c)=>Br c (oE E a S Q) (oE E b S Q)
   | _=>False
 | .block id b,S,Q=>oE E b S (Cj id Q)
 | .loop b,S,Q=>ba E b S Q
 | .exit id,S,Q=>Q (.exit id) S
 | .ret,S,Q=>Q .ret S
 | .scope b,S,Q=>oE E b S Q
 | .bad,_,_=>False
 | .nU x ps a b,S,Q=>yr E x ps a b S Q
 | .keys it nx ne id kT kO h0 b l,S,Q=>Ck E it nx ne id kT kO h0 b l S Q
theorem cP: ∀ {c:al} {S:SS} {Q:aY→SS→Prop} {σ:St},oE E c S Q→S.On σ→lF E c σ fun e σ'=> ∃S',S'.On σ'∧Q e S'
 | .skip,S,Q,σ,h,ho=>by rw[oK];exact⟨S,ho,h⟩
 | .region ops,S,Q,σ,h,ho=>by rw[kr];exact n0 h ho
 | .drawn ops,S,Q,σ,h,ho=>by
   refine vg ?_
   have h1:=n9 h ho
   refine oP h1 ?_
   rintro fs σ' ⟨S',h2,h3,h4⟩
   exact⟨h3,S',h2,h4⟩
 | .seq a b,S,Q,σ,h,ho=>by
   rw[rQ]
   refine gZ (cP (c:=a) h ho) ?_
   rintro e σ' ⟨S',h1,h2⟩
   cases e with
   | normal=>exact cP (c:=b) h2 h1
   | exit id=>exact⟨S',h1,h2⟩
   | ret=>exact⟨S',h1,h2⟩
 | .cond c a b,S,Q,σ,h,ho=>by
   rw[oM]
   simp only[oE] at h
   cases c with
   | tmp t=>
     simp only at h
     split at h
     · rename_i c hc
       rw[jB,ho.1 t _ hc]
       cases c with
       | true=>exact cP (c:=a) (h.1 rfl) ho
       | false=>exact cP (c:=b) (h.2 rfl) ho
     · exact h.elim
   | const v=>
     cases v
     case bool c=>
       rw[gM]
       cases c with
       | true=>exact cP (c:=a) (h.1 rfl) ho
       | false=>exact cP (c:=b) (h.2 rfl) ho
     all_goals exact h.elim
 | .block id b,S,Q,σ,h,ho=>by
   rw[mN]
   refine gZ (cP (c:=b) h ho) ?_
   rintro e σ' ⟨S',h1,h2⟩
   cases e with
   | normal=>exact⟨S',h1,h2⟩
   | ret=>exact⟨S',h1,h2⟩
   | exit jv=>
     simp only[Cj] at h2
     simp only[sa]
     cases hb:Nat.beq jv id with
     | true=>
       have:=Nat.eq_of_beq_eq_true hb
       simp only[hb,cond_true] at h2
       rw[if_pos this];exact⟨S',h1,h2⟩
     | false=>
       have:jv≠id:=Nat.ne_of_beq_eq_false hb
       simp only[hb,cond_false] at h2
       rw[if_neg this];exact⟨S',h1,h2⟩
 | .loop b,S,Q,σ,h,ho=>h.h σ ho
 | .exit id,S,Q,σ,h,ho=>by rw[oL];exact⟨S,ho,h⟩
 | .ret,S,Q,σ,h,ho=>by rw[rP];exact⟨S,ho,h⟩
 | .scope b,S,Q,σ,h,ho=>by rw[mM];exact cP (c:=b) h ho
 | .nU ..,S,Q,σ,h,ho=>h.h σ ho
 | .keys ..,S,Q,σ,h,ho=>h.h σ ho
 | .bad,_,_,_,h,_=>h.elim
theorem U6 {x:V}:aH [x] 0 1=[x]:=rfl
def rD {α:Type}:List (Nat×α)→List (Nat×α)→Prop
 | [],_=>True
 | p::l,m=> (match lk m p.1 with
   | some x=>x=p.2
   | none=>False)∧rD l m
def SS.Sub (S S':SS):Prop:=rD S.T S'.T∧rD S.O S'.O
theorem rD.lk {α:Type}: ∀ {l m:List (Nat×α)},rD l m→ ∀ {n x},lk l n=some x→lk m n=some x
 | [],_,_,n,x,h=>by simp[AM.lk] at h
 | p::l,m,h,n,x,hx=>by
   rw[ee] at hx
   by_cases e:p.1=n
   · rw[if_pos e] at hx
     injection hx with hx
     have:=h.1
     subst e
     split at this
     · rename_i y hy;rw[hy,this,hx]
     · exact this.elim
   · rw[if_neg e] at hx
     exact rD.lk h.2 hx
theorem SS.Sub.on {S S':SS} (h:S.Sub S') {σ:St} (ho:S'.On σ):S.On σ:=
 ⟨fun t v hv=>ho.1 t v (h.1.lk hv),fun r o hr=>ho.2 r o (h.2.lk hr)⟩
def MA (Q:aY→SS→Prop) (I:Nat→SS→Prop) (k:Nat):aY→SS→Prop
 | .normal,S=> ∃j,j<k∧ ∃S',S'.Sub S∧I j S'
 | .exit id,S=>Q (.exit id) S
 | .ret,S=>Q .ret S
theorem ba.of {b:al} {Q:aY→SS→Prop} (I:Nat→SS→Prop) (hI: ∀k S,I k S→oE E b S (MA Q I k)) {k:Nat} {S0 S:SS} (hs:S0.Sub S) (h0:I k S0):ba E b S Q:=by
 refine⟨fun σ ho=> ?_⟩
 refine wo (fun k σ=> ∃S,S.On σ∧I k S) ?_ k σ ⟨S0,hs.on ho,h0⟩
 rintro k σ ⟨S,hS,hi⟩
 refine gZ (cP (hI k S hi) hS) ?_
 rintro e σ' ⟨S',h1,h2⟩
 cases e with
 | normal=>
   obtain⟨j,hj,Hl,h3,h4⟩:=h2
   exact⟨j,hj,Hl,h3.on h1,h4⟩
 | exit id=>exact⟨S',h1,h2⟩
 | ret=>exact⟨S',h1,h2⟩
theorem c8: ∀ {a:bu} {S:SS} {Q Q':KK},eS E a S Q→(∀v S' r w,Q v S' r w→Q' v S' r w)→eS E a S Q'
 | .done v,_,_,_,h,k=>k _ _ _ _ h
 | .fail,_,_,_,h,_=>h
 | .lE t f,S,Q,Q',h,k=>by
   simp only[eS] at h ⊢
   split
   · rename_i v hv
     rw[hv] at h
     exact c8 h fun _ _ _ _ h=>k _ _ _ _ h
   · rename_i hv;rw[hv] at h;exact h
 | .bR t f,S,Q,Q',h,k=>by
   simp only[eS] at h ⊢
   split
   · rename_i v hv
     rw[hv] at h
     exact c8 h fun _ _ _ _ h=>k _ _ _ _ h
   · rename_i hv;rw[hv] at h;exact h
 | .bC t o f,⟨T,O⟩,Q,Q',h,k=>by
   simp only[eS] at h ⊢
   exact c8 h fun _ _ _ _ h=>k _ _ _ _ h
 | .lG t f,S,Q,Q',h,k=>by
   simp only[eS] at h ⊢
   exact fun g=>c8 (h g) fun _ _ _ _ h=>k _ _ _ _ h
 | .call f as c,S,Q,Q',h,k=>by
   simp only[eS] at h ⊢
   obtain⟨res,h1,h2⟩:=h
   exact⟨res,h1,c8 h2 k⟩
 | .bS p c,S,Q,Q',h,k=> ⟨h.1,c8 h.2 k⟩
 | .ex α p c,S,Q,Q',h,k=>by
   obtain⟨x,h1,h2⟩:=h
   exact⟨x,h1,c8 h2 k⟩
 | .ite b x y,S,Q,Q',h,k=> ⟨fun hb=>c8 (h.1 hb) k,fun hb=>c8 (h.2 hb) k⟩
 | .Mz a,S,Q,Q',h,k=> ⟨fun σ ho=>lP (h.h σ ho) fun v σ' r w ⟨S',h1,h2⟩=> ⟨S',h1,k _ _ _ _ h2⟩⟩
 | .alt x y,S,Q,Q',h,k=>by
   rcases h with h| h
   · exact .inl (c8 h k)
   · exact .inr (c8 h k)
 | .all f,S,Q,Q',h,k=>fun n=>c8 (h n) k
theorem qh: ∀ {os:List bq} {S:SS} {Q Q':SS→Prop},AA E os S Q→(∀S',Q S'→Q' S')→AA E os S Q'
 | [],_,_,_,h,k=>k _ h
 | o::os,_,_,_,h,k=>c8 h fun _ ⟨T,O⟩ _ _ h=>by
   cases hd:o.dst with
   | none=>simp only[hd] at h ⊢;exact qh h k
   | some d=>simp only[hd] at h ⊢;exact qh h k
theorem qi: ∀ {os:List bq} {S:SS} {Q Q':List dZ→SS→Prop},AB E os S Q→(∀fs S',Q fs S'→Q' fs S')→AB E os S Q'
 | [],_,_,_,h,k=>k _ _ h
 | o::os,_,_,_,h,k=>c8 h fun _ ⟨T,O⟩ _ _ h=>by
   cases hd:o.dst with
   | none=>simp only[hd] at h ⊢;exact qi h fun _ _ h=>k _ _ h
   | some d=>simp only[hd] at h ⊢;exact qi h fun _ _ h=>k _ _ h
theorem fM: ∀ {c:al} {S:SS} {Q Q':aY→SS→Prop},oE E c S Q→(∀e S',Q e S'→Q' e S')→oE E c S Q'
 | .skip,_,_,_,h,k=>k _ _ h
 | .region _,_,_,_,h,k=>qh h fun _ h=>k _ _ h
 | .drawn _,_,_,_,h,k=>qi h fun _ _ h=> ⟨h.1,k _ _ h.2⟩
 | .seq a b,_,Q,Q',h,k=>fM (c:=a) h fun e S' h'=>by
   cases e with
   | normal=>exact fM (c:=b) h' k
   | exit id=>exact k _ _ h'
   | ret=>exact k _ _ h'
 | .cond c a b,S,Q,Q',h,k=>by
   simp only[oE] at h ⊢
   cases c with
   | tmp t=>
     simp only at h ⊢
     split at h
     · exact⟨fun hb=>fM (c:=a) (h.1 hb) k,fun hb=>fM (c:=b) (h.2 hb) k⟩
     · exact h.elim
   | const v=>
     cases v
     case bool c=>exact⟨fun hb=>fM (c:=a) (h.1 hb) k,fun hb=>fM (c:=b) (h.2 hb) k⟩
     all_goals exact h.elim
 | .block id b,_,Q,Q',h,k=>fM (c:=b) h fun e S' h'=>by
   cases e with
   | normal=>exact k _ _ h'
   | ret=>exact k _ _ h'
   | exit jv=>
     simp only[Cj] at h' ⊢
     cases hb:Nat.beq jv id with
     | true=>simp only[hb,cond_true] at h' ⊢;exact k _ _ h'
     | false=>simp only[hb,cond_false] at h' ⊢;exact k _ _ h'
 | .loop b,_,_,_,h,k=> ⟨fun σ ho=>gZ (h.h σ ho) fun e σ' ⟨S',h1,h2⟩=> ⟨S',h1,k _ _ h2⟩⟩
 | .exit _,_,_,_,h,k=>k _ _ h
 | .ret,_,_,_,h,k=>k _ _ h
 | .scope b,_,_,_,h,k=>fM (c:=b) h k
 | .nU ..,_,_,_,h,k=> ⟨fun σ ho=>gZ (h.h σ ho) fun e σ' ⟨S',h1,h2⟩=> ⟨S',h1,k _ _ h2⟩⟩
 | .keys ..,_,_,_,h,k=> ⟨fun σ ho=>gZ (h.h σ ho) fun e σ' ⟨S',h1,h2⟩=> ⟨S',h1,k _ _ h2⟩⟩
 | .bad,_,_,_,h,_=>h
inductive bI {α:Type} (Sh:α→SS) (P:α→Prop) (μ:α→Nat) (a:α) (S:SS):Prop
 | mk (a':α) (h1:μ a'<μ a) (h2:P a') (h3: (Sh a').Sub S)
def Hm {α:Type} (Q:aY→SS→Prop) (Sh:α→SS) (P:α→Prop) (μ:α→Nat) (a:α):aY→SS→Prop
 | .normal,S=>bI Sh P μ a S
 | .exit id,S=>Q (.exit id) S
 | .ret,S=>Q .ret S
theorem ba.by {α:Type} {b:al} {Q:aY→SS→Prop} {S:SS} (Sh:α→SS) (P:α→Prop) (μ:α→Nat) (a0:α) (hs: (Sh a0).Sub S) (h0:P a0)
   (step: ∀a,P a→oE E b (Sh a) (Hm Q Sh P μ a)):ba E b S Q:=by
 refine ba.of (fun k S=> ∃a,k=μ a∧P a∧S=Sh a) ?_ hs ⟨a0,rfl,h0,rfl⟩
 rintro k S ⟨a,rfl,hp,rfl⟩
 refine fM (step a hp) fun e S' h=> ?_
 cases e with
 | normal=>
   obtain⟨a',h1,h2,h3⟩:=h
   exact⟨_,h1,_,h3,a',rfl,h2,rfl⟩
 | exit id=>exact h
 | ret=>exact h
theorem ba.Hn {b:al} {Q:aY→SS→Prop} {S:SS} (h:ba E b S fun e S'=> ∃S0,S0.Sub S'∧Q e S0):ba E b S Q:=by
 refine⟨fun σ ho=>gZ (h.h σ ho) ?_⟩
 rintro e σ' ⟨S',h1,S0,h2,h3⟩
 exact⟨S0,h2.on h1,h3⟩
def MB (K:SS→Prop):aY→SS→Prop
 | .normal,S=>K S
 | _,_=>False
def wy (S:SS):List Nat→List V→SS
 | p::ps,x::xs=>wy (S.put (some p) x) ps xs
 | _,_=>S
theorem wz: ∀ {ps:List Nat} {x:List V} {S:SS} {T:Nat→V} {O:Nat→Obj},S.On ⟨T,O⟩→(wy S ps x).On ⟨lV T ps x,O⟩
 | [],x,S,T,O,h=>by simpa [wy,lV] using h
 | p::ps,[],S,T,O,h=>by simpa [wy,lV] using h
 | p::ps,x::xs,S,T,O,h=>wz (ps:=ps) (x:=xs) (h.put (some p) x)
inductive U7 {α:Type} (Oh:α→List (Nat×Obj)) (P:α→Prop) (O:List (Nat×Obj)):Prop
 | mk (a:α) (h1:P a) (h2:rD (Oh a) O)
def U8 {α:Type} (Q:aY→SS→Prop) (T:List (Nat×V)) (Oh:α→List (Nat×Obj)) (P:α→Prop):aY→SS→Prop
 | .normal,S=>U7 Oh P S.O
 | .exit id,S=>Q (.exit id) ⟨T,S.O⟩
 | .ret,S=>Q .ret ⟨T,S.O⟩
theorem yr.by {α:Type} {fx:aP} {ps:List Nat} {ac b:al} {S:SS} {Q:aY→SS→Prop} {g:Nat} {caps:List V} (xs:List (List V)) (hf:match fx with| .tmp t=>lk S.T t=some (.fn g caps) | .const v=>v= .fn g caps) (hi:E.iter g caps=some xs) (hl: ∀x ∈ xs,x.length=ps.length)
  (Oh:α→List (Nat×Obj)) (P:Nat→α→Prop) (a0:α) (h0:rD (Oh a0) S.O) (hp:P 0 a0)
  (step: ∀ (k:Nat) x a,xs[k]? =some x→P k a→oE E ac (wy ⟨S.T,Oh a⟩ ps x) (MB fun S1=>oE E b S1 (U8 Q S.T Oh (P (k+1)))))
  (fin: ∀a,P xs.length a→Q .normal ⟨S.T,Oh a⟩):yr E fx ps ac b S Q:=by
 refine⟨fun σ ho=> ?_⟩
 have MC: ∀ {l:List (Nat×Obj)} {σ:St} {m:List (Nat×Obj)},rD l m→(∀r o,lk m r=some o→σ.O r=o)→ ∀r o,lk l r=some o→σ.O r=o:=fun {l σ m} hs hm=>by
  have h2: (⟨[],m⟩:SS).On σ:=⟨fun t v h=>by simp[lk] at h,hm⟩
  exact(SS.Sub.on (S:=⟨[],l⟩) (S':=⟨[],m⟩) ⟨trivial,hs⟩ h2).2
 have run: ∀ (rest:List (List V)) (k:Nat) (a:α) (O:Nat→Obj),xs.drop k=rest→P k a→(∀r o,lk (Oh a) r=some o→O r=o)→k≤xs.length→ ∃n e σ',oW (exec E n) ps ac b σ.T rest O=some (e,σ')∧ ∃S',S'.On σ'∧Q e S':=by
  intro rest
  induction rest with
  | nil=>
    intro k a O hd L5 hO Uy
    have hk:xs.length≤k:=by
      have:=congrArg List.length hd
      simp at this;omega
    have:k=xs.length:=by omega
    subst this
    exact⟨0,.normal,⟨σ.T,O⟩,rfl,⟨S.T,Oh a⟩,⟨ho.1,hO⟩,fin a L5⟩
  | cons x rest ih=>
    intro k a O hd L5 hO Uy
    have hk:k<xs.length:=by
      rcases Nat.lt_or_ge k xs.length with h| h
      · exact h
      · rw[List.drop_of_length_le h] at hd;simp at hd
    rw[List.drop_eq_getElem_cons hk] at hd
    injection hd with hx hd
    have dG:xs[k]? =some x:=by rw[List.getElem?_eq_getElem hk,hx]
    obtain⟨n1,e1,σ1,h1,S1,h2,h3⟩:=cP (step k x a dG L5) (wz (x:=x) (ps:=ps) (S:=⟨S.T,Oh a⟩) (T:=σ.T) (O:=O) ⟨ho.1,hO⟩)
    cases e1 with
    | exit id=>exact h3.elim
    | ret=>exact h3.elim
    | normal=>
      obtain⟨n2,e2,σ2,k1,S2,k2,k3⟩:=cP h3 h2
      cases e2 with
      | normal=>
        obtain⟨a',q1,q2⟩:=k3
        obtain⟨n3,e,σ',l1,l2⟩:=ih (k+1) a' σ2.O hd q1 (MC (σ:=σ2) q2 k2.2) (by omega)
        refine⟨max n1 (max n2 n3),e,σ',?_,l2⟩
        have m1:=ct (E:=E) (Nat.le_max_left n1 (max n2 n3)) _ _ _ h1
        have m2:=ct (E:=E) (Nat.le_trans (Nat.le_max_left n2 n3) (Nat.le_max_right n1 _)) _ _ _ k1
        have m3:=pT (fun c σ x h=>ct (E:=E) (Nat.le_trans (Nat.le_max_right n2 n3) (Nat.le_max_right n1 _)) c σ x h) l1
        simp only[oW,m1,m2,m3]
      | exit id=>
        refine⟨max n1 n2,.exit id,⟨σ.T,σ2.O⟩,?_,⟨S.T,S2.O⟩,⟨ho.1,k2.2⟩,k3⟩
        have m1:=ct (E:=E) (Nat.le_max_left n1 n2) _ _ _ h1
        have m2:=ct (E:=E) (Nat.le_max_right n1 n2) _ _ _ k1
        simp only[oW,m1,m2]
      | ret=>
        refine⟨max n1 n2,.ret,⟨σ.T,σ2.O⟩,?_,⟨S.T,S2.O⟩,⟨ho.1,k2.2⟩,k3⟩
        have m1:=ct (E:=E) (Nat.le_max_left n1 n2) _ _ _ h1
        have m2:=ct (E:=E) (Nat.le_max_right n1 n2) _ _ _ k1
        simp only[oW,m1,m2]
 obtain⟨n,e,σ',h1,h2⟩:=run xs 0 a0 σ.O (by simp) hp (MC (σ:=σ) h0 ho.2) (Nat.zero_le _)
 refine⟨n+1,e,σ',?_,h2⟩
 have MD:bc σ fx= .fn g caps:=by
  cases fx with
  | tmp t=>exact ho.1 t _ hf
  | const v=>exact hf
 have oX:xs.all (fun x=>Nat.beq x.length ps.length)=true:=by
  rw[List.all_eq_true];intro x hx;rw[Nat.beq_eq];exact hl x hx
 simp only[exec,aE,MD,hi,oX,if_true,h1]
def Cl (K:SS→Prop):aY→SS→Prop
 | .normal,S=>K S
 | _,_=>False
def ME (id:Nat) (K:SS→Prop):aY→SS→Prop
 | .exit jv,S=>dC (jv=id) (K S)
 | _,_=>False
theorem yt {α:Type}: ∀ {l:List (Nat×α)} {n:Nat} {v:α},lk l n=some v→(n,v) ∈ l
 | [],n,v,h=>by simp[lk] at h
 | (k,u)::l,n,v,h=>by
   rw[ee] at h
   split at h
   · rename_i e
     simp only at e
     subst e
     injection h with h;subst h;simp
   · exact List.mem_cons_of_mem _ (yt h)
theorem Ck.by {it nx ne id:Nat} {kT kO:List Nat} {h0 b l:al} {Q:aY→SS→Prop} {S:SS} {r g:Nat} {arr:Bool} {es:List V} (Sh:List V→SS) (Sf:SS)
   (hT:lk S.T it=some (.it r g)) (hO:lk S.O r=some ⟨g,0,arr,false,some [.mlit es]⟩) (MF: (Sh []).Sub ⟨S.T,(r,⟨g,0,false,false,none⟩)::S.O⟩)
   (Eh: ∀d,lk (Sh d).T it=some (.it r g)) (hg: ∀d,∃o,lk (Sh d).O r=some o∧o.gen=g) (bJ: ∀e ∈ es,∃k v,e= .tuple [k,v])
   (step: ∀d k v rest,(d++ .tuple [k,v]::rest).Perm es→oE E h0 (SS.put (Sh d) (some nx) (.tuple [.bool true,k,v])) (Cl fun S1=> (lk S1.T it=some (.it r g)∧ ∃o,lk S1.O r=some o∧o.gen=g)∧oE E b (SS.put S1 (some ne) (.tuple [k,v])) (Cl fun S'=> (Sh (d++[.tuple [k,v]])).Sub S')))
   (last: ∀d,d.Perm es→oE E h0 (SS.put (Sh d) (some nx) (.tuple [.bool false])) (ME id fun S'=>oE E l S' (Cl fun Hl=>Sf.Sub Hl)))
   (Gm:kT.all (fun t=> (lk Sf.T t).isSome)=true) (Gn:kO.all (fun t=> (lk Sf.O t).isSome)=true) (fT:Sf.T.all (fun p=>kT.contains p.1)=true) (fO:Sf.O.all (fun p=>kO.contains p.1)=true)
   (hQ:Q .normal Sf):Ck E it nx ne id kT kO h0 b l S Q:=by
 refine⟨fun σ ho=> ?_⟩
 have U9: (Sh []).On ⟨σ.T,cW σ.O r ⟨g,0,false,false,none⟩⟩:=by
   refine MF.on ⟨fun t v hv=>ho.1 t v hv,fun x o hx=> ?_⟩
   rw[ee] at hx
   show cW σ.O r _ x=o
   unfold cW
   by_cases e:r=x
   · simp only[e,if_true,Option.some.injEq] at hx ⊢;exact hx
   · rw[if_neg e] at hx;rw[if_neg (Ne.symm e)];exact ho.2 x o hx
 have Gp: ∀d (τ:St),(Sh d).On τ→rE it r g τ=true:=fun d τ hτ=>by
   obtain⟨o,h1,h2⟩:=hg d
   unfold rE
   rw[hτ.1 _ _ (Eh d),hτ.2 _ _ h1]
   simp[h2]
 have run: ∀ (rest d:List V) (τ:St),(d++rest).Perm es→(Sh d).On τ→ ∃n σp,runK (exec E n) it r g nx ne id h0 b l rest τ=some σp∧Sf.On σp:=by
   intro rest
   induction rest with
   | nil=>
     intro d τ hp hτ
     obtain⟨n1,e,τ1,h1,S1,h2,h3⟩:=cP (last d (by simpa using hp)) (hτ.put (some nx) (.tuple [.bool false]))
     cases e with
     | normal=>exact h3.elim
     | ret=>exact h3.elim
     | exit jv=>
       obtain⟨rfl,h3⟩:=h3
       obtain⟨n2,e2,τ2,k1,S2,k2,k3⟩:=cP h3 h2
       cases e2 with
       | exit jv=>exact k3.elim
       | ret=>exact k3.elim
       | normal=>
         refine⟨max n1 n2,τ2,?_,SS.Sub.on k3 k2⟩
         have m1:=ct (E:=E) (Nat.le_max_left n1 n2) _ _ _ h1
         have m2:=ct (E:=E) (Nat.le_max_right n1 n2) _ _ _ k1
         simp only[runK,Gp d τ hτ,if_true,m1,m2]
   | cons x rest ih=>
     intro d τ hp hτ
     obtain⟨k,v,rfl⟩:=bJ x (hp.mem_iff.1 (by simp))
     obtain⟨n1,e,τ1,h1,S1,h2,h3⟩:=cP (step d k v rest hp) (hτ.put (some nx) (.tuple [.bool true,k,v]))
     cases e with
     | exit jv=>exact h3.elim
     | ret=>exact h3.elim
     | normal=>
       obtain⟨⟨t1,o1,t2,t3⟩,h3⟩:=h3
       have Va:rE it r g τ1=true:=by
         unfold rE
         rw[h2.1 _ _ t1,h2.2 _ _ t2]
         simp[t3]
       obtain⟨n3,e3,τ3,l1,S3,l2,l3⟩:=cP h3 (h2.put (some ne) (.tuple [k,v]))
       cases e3 with
       | exit jv=>exact l3.elim
       | ret=>exact l3.elim
       | normal=>
         obtain⟨n2,σp,k1,k2⟩:=ih (d++[.tuple [k,v]]) τ3 (by simpa using hp) (SS.Sub.on l3 l2)
         refine⟨max n1 (max n3 n2),σp,?_,k2⟩
         have m1:=ct (E:=E) (Nat.le_max_left n1 (max n3 n2)) _ _ _ h1
         have m3:=ct (E:=E) (Nat.le_trans (Nat.le_max_left n3 n2) (Nat.le_max_right n1 _)) _ _ _ l1
         have m2:=mL (fun c σ x h=>ct (E:=E) (Nat.le_trans (Nat.le_max_right n3 n2) (Nat.le_max_right n1 _)) c σ x h) k1
         simp only[runK,Gp d τ hτ,Va,if_true,m1,m3,m2]
 obtain⟨n,ys,h1,h2,h3⟩:=sn (f:=fun n p=>runK (exec E n) it r g nx ne id h0 b l p ⟨σ.T,cW σ.O r ⟨g,0,false,false,none⟩⟩) (P:=fun σp=>Sf.On σp)
   (fun n m p y MG h=>mL (fun c σ x h=>ct (E:=E) MG c σ x h) h) (l:=perms es) fun p hp=>run p [] _ (by simpa using qK hp) U9
 have c9:perms es≠[]:=fun e=>by have:=lW (List.Perm.refl es);rw[e] at this;simp at this
 match ys,h2,h3,h1 with
 | [],h2,_,_=>exact absurd (List.length_eq_zero_iff.1 h2.symm) c9
 | σ1::σs,_,h3,h1=>
   have Yd:σ.T it= .it r g:=ho.1 _ _ hT
   have Ye:=ho.2 _ _ hO
   have Ho:σs.all (agree kT kO σ1)=true:=by
     rw[List.all_eq_true]
     intro τ hτ
     have o1:=h3 σ1 (by simp)
     have o2:=h3 τ (by simp[hτ])
     simp only[agree,Bool.and_eq_true,List.all_eq_true] at Gm Gn ⊢
     refine⟨fun t ht=> ?_,fun x hx=> ?_⟩
     · obtain⟨v,hv⟩:=Option.isSome_iff_exists.1 (Gm t ht)
       rw[o1.1 t v hv,o2.1 t v hv];exact V.jc v
     · obtain⟨v,hv⟩:=Option.isSome_iff_exists.1 (Gn x hx)
       rw[o1.2 x v hv,o2.2 x v hv];exact Obj.jc v
   refine⟨n+1,.normal,forget kT kO σ1 σs,?_,Sf,?_,hQ⟩
   · simp only[exec,aE,Yd,Ye,and_self,if_true,h1,Ho]
   · have o1:=h3 σ1 (by simp)
     refine⟨fun t v hv=> ?_,fun x o hx=> ?_⟩
     · have:=List.all_eq_true.1 fT _ (yt hv)
       simp only[forget,this,if_true]
       exact o1.1 t v hv
     · have:=List.all_eq_true.1 fO _ (yt hx)
       simp only[forget,this,if_true]
       exact o1.2 x o hx
theorem Gq (i:Nat) (h:i< 4611686018427387904):V.int .i64 (IntKind.i64.wrap ((i:Int)+1))=V.int .i64 ((i+1:Nat):Int):=by
 rw[wrap64 (by omega) (by omega)];rfl
def AD ( S:SS):List oN→(List V→Prop)→Prop
 | [],k=>k []
 | .tmp t::rs,k=> (match lk S.T t with
   | some v=>AD S rs fun vs=>k (v::vs)
   | none=>False)
 | .cell t agg sz::rs,k=> (match lk S.T t with
   | some (.ptr r g idx off)=> (match lk S.O r with
     | some ⟨ck,_,_,_,gQ⟩=> (match gQ with
       | some [e]=> (match idx with
         | 0=>dC (ck=g) (match si agg off sz e with
           | some v=>AD S rs fun vs=>k (v::vs)
           | none=>False)
         | _+1=>False)
       | _=>False)
     | none=>False)
   | _=>False)
theorem oa {  S:SS} {σ:St} (ho:S.On σ): ∀ {rs:List oN} {k:List V→Prop},AD S rs k→ ∃vs,cO σ rs=some vs∧k vs
 | [],k,h=> ⟨[],rfl,h⟩
 | .tmp t::rs,k,h=>by
   simp only[AD] at h
   split at h
   · rename_i v hv
     obtain⟨vs,h1,h2⟩:=oa ho h
     exact⟨v::vs,by simp[cO,er,h1,ho.1 t v hv],h2⟩
   · exact h.elim
 | .cell t agg sz::rs,k,h=>by
   simp only[AD] at h
   split at h
   · rename_i r g idx off hv
     split at h
     · rename_i ck fI da ij gQ hr
       split at h
       · rename_i e
         split at h
         · obtain⟨hg,h⟩:=h
           split at h
           · rename_i v hp
             obtain⟨vs,h1,h2⟩:=oa ho h
             refine⟨v::vs,?_,h2⟩
             simp[cO,er,h1,ho.1 t _ hv,ho.2 r _ hr,hg,iY hp]
           · exact h.elim
         · exact h.elim
       · exact h.elim
     · exact h.elim
   · exact h.elim
def qL (S:SS):Nat→List V→(List (Nat×List V)→Prop)→Prop
 | _,[],k=>k []
 | i,.msl sz _ _ _::as,k| i,.mptr sz _ _ _::as,k=> (match lk S.O i with
   | some ⟨ck,fI,_,ij,gQ⟩=> (match gQ with
     | some es=>dC (ij=false∧fI=sz∧V.aq es=true) (qL S (i+1) as fun outs=>k ((ck,es)::outs))
     | none=>False)
   | none=>False)
 | i,_::as,k=>qL S (i+1) as k
theorem jF {S:SS} {σ:St} (ho:S.On σ): ∀ {as:List V} {i:Nat} {k:List (Nat×List V)→Prop},qL S i as k→ ∃outs,bP σ.O i as=some outs∧k outs
 | [],i,k,h=> ⟨[],by simp[bP],by simpa [qL] using h⟩
 | a::as,i,k,h=>by
   cases a
   case msl sz es' off len=>
    simp only[qL] at h
    split at h
    · rename_i ck fI da ij gQ hr
      split at h
      ·  rename_i es
         obtain⟨hc,h⟩:=h
         obtain⟨outs,h1,h2⟩:=jF ho h
         refine⟨_,?_,h2⟩
         simp[bP,ho.2 i _ hr,h1,hc]
      · exact h.elim
    · exact h.elim
   case mptr sz es' off len=>
    simp only[qL] at h
    split at h
    · rename_i ck fI da ij gQ hr
      split at h
      ·  rename_i es
         obtain⟨hc,h⟩:=h
         obtain⟨outs,h1,h2⟩:=jF ho h
         refine⟨_,?_,h2⟩
         simp[bP,ho.2 i _ hr,h1,hc]
      · exact h.elim
    · exact h.elim
   all_goals
    simp only[qL] at h
    obtain⟨outs,h1,h2⟩:=jF ho h
    exact⟨outs,by simp[bP,h1],h2⟩
def oY ( n:Nat) (S:SS) (c:V) (k:V→List Nat→Prop):Prop:=
 match c with
 | .sl r g off len=> (match lk S.O r with
   | some ⟨ck,fI,da,ij,gQ⟩=> (match gQ with
     | some es=>dC (ck=g∧da=true) (aL (fun ys=>aH es off len=ys) fun ys=>dC (off+len≤es.length∧V.aq ys=true)
        (bif Nat.blt r n then k (.sl r g off len) [r] else bif ij then k (.lit fI ys) [] else k (.own fI ys) [r]))
     | none=>False)
   | none=>False)
 | c=>dC (V.aC c=true) (k c [])
theorem lX {n:Nat} {S:SS} {σ:St} (ho:S.On σ) {c:V} {k:V→List Nat→Prop} (h:oY n S c k): ∃v rs,bH n σ c=some (v,rs)∧k v rs:=by
 unfold oY at h
 split at h
 · rename_i r g off len
   split at h
   · rename_i ck fI da ij gQ hr
     split at h
     · rename_i es
       obtain⟨⟨h1,h2⟩,ys,rfl,⟨h3,h4⟩,h⟩:=h
       have e1:=ho.2 r _ hr
       simp only[bH,e1,h1,h2,h3,h4,and_self,if_true]
       cases hb:Nat.blt r n with
       | true=>
         have:r<n:=by simpa [Nat.blt_eq] using hb
         simp only[hb,cond_true] at h
         rw[if_pos this];exact⟨_,_,rfl,h⟩
       | false=>
         have: ¬r<n:=by intro hc;rw[←Nat.blt_eq,hb] at hc;simp at hc
         simp only[hb,cond_false] at h
         rw[if_neg this]
         cases hz:ij with
         | true=>simp only[hz,cond_true] at h;exact⟨_,_,by simp[e1,hz],h⟩
         | false=>simp only[hz,cond_false] at h;exact⟨_,_,by simp[e1,hz],h⟩
     · exact h.elim
   · exact h.elim
 · rename_i hn
   refine⟨c,[],?_,h.rest⟩
   have h:=h.side
   unfold bH
   cases c
   case sl=>exact absurd rfl (hn _ _ _ _)
   all_goals simp_all
def mS (n:Nat) (S:SS):List V→(List V→List Nat→Prop)→Prop
 | [],k=>k [] []
 | c::cs,k=>oY n S c fun c' r=>mS n S cs fun cI rs=>k (c'::cI) (r++rs)
theorem iq {n:Nat} {S:SS} {σ:St} (ho:S.On σ): ∀ {cs:List V} {k:List V→List Nat→Prop},mS n S cs k→ ∃v rs,bx n σ cs=some (v,rs)∧k v rs
 | [],_,h=> ⟨[],[],rfl,h⟩
 | c::cs,k,h=>by
   obtain⟨v,r,h1,h2⟩:=lX ho h
   obtain⟨vs,rs,h3,h4⟩:=iq ho h2
   exact⟨_,_,by simp[bx,h1,h3],h4⟩
def Cm (n:Nat) (S:SS) (v:V) (k:V→List Nat→Prop):Prop:=
 bif V.aC v then k v [] else
 match v with
 | .agg cs=>mS n S cs fun cI rs=>k (.agg cI) rs
 | .fn f cs=>mS n S cs fun cI rs=>dC (V.aq cI=true) (k (.fn f cI) rs)
 | v=>oY n S v k
theorem wA {n:Nat} {S:SS} {σ:St} (ho:S.On σ) {v:V} {k:V→List Nat→Prop} (h:Cm n S v k): ∃v' rs,cp n σ v=some (v',rs)∧k v' rs:=by
 unfold Cm at h
 unfold cp
 cases hp:V.aC v with
 | true=>simp only[hp,cond_true] at h;exact⟨v,[],by simp,h⟩
 | false=>
   simp only[hp,cond_false] at h
   simp only[Bool.false_eq_true,if_false]
   split at h
   · obtain⟨cI,rs,h1,h2⟩:=iq ho h
     exact⟨_,_,by simp[h1],h2⟩
   · obtain⟨cI,rs,h1,h2,h3⟩:=iq ho h
     exact⟨_,_,by simp[h1,h2],h3⟩
   · obtain⟨v',rs,h1,h2⟩:=lX ho h
     exact⟨v',rs,by cases v<;>simp_all,h2⟩
def yu (n:Nat) (S:SS):List V→(List V→List Nat→Prop)→Prop
 | [],k=>k [] []
 | c::cs,k=>Cm n S c fun c' r=>yu n S cs fun cI rs=>k (c'::cI) (r++rs)
theorem oZ {n:Nat} {S:SS} {σ:St} (ho:S.On σ): ∀ {cs:List V} {k:List V→List Nat→Prop},yu n S cs k→ ∃v rs,cb n σ cs=some (v,rs)∧k v rs
 | [],_,h=> ⟨[],[],rfl,h⟩
 | c::cs,k,h=>by
   obtain⟨v,r,h1,h2⟩:=wA ho h
   obtain⟨vs,rs,h3,h4⟩:=oZ ho h2
   exact⟨_,_,by simp[cb,h1,h3],h4⟩
def vq (rs:List oN) (args:List V) (S:SS) (R:fh→Prop):Prop:=
 AD S rs fun vs=>qL S 0 args fun outs=>yu args.length S vs fun vs' refs=>dC (distinct refs=true) (match vs' with
  | [v]=>R ⟨v,outs⟩
  | vs'=>R ⟨.tuple vs',outs⟩)
def yw (rs:List oN) (args:List V) (R:fh→Prop):aY→SS→Prop
 | .exit _,_=>False
 | .normal,S=>vq rs args S R
 | .ret,S=>vq rs args S R
theorem vr {rs:List oN} {args:List V} {S:SS} {R:fh→Prop} {σ:St} (ho:S.On σ) (h:vq rs args S R): ∃res,leave ⟨0,0,[],rs,.skip,none⟩ args σ=some res∧R res:=by
 obtain⟨vs,h1,h⟩:=oa ho h
 obtain⟨outs,h2,h⟩:=jF ho h
 obtain⟨vs',refs,h3,h4,h⟩:=oZ ho h
 simp only[leave,h1,h2,h3]
 split at h
 · rename_i v
   exact⟨_,by simp[h4],h⟩
 · rename_i hn
   refine⟨⟨.tuple vs',outs⟩,?_,h⟩
   split
   · rename_i v rs' heq
     injection heq with e1;injection e1 with e1 e2
     exact absurd e1 (by intro hh;exact hn v hh)
   · rename_i Yf rs2 heq
     injection heq with e1;injection e1 with e1 e2
     subst e1 e2
     simp[h4]
   · rename_i heq;simp at heq
def jR:Nat→List V→List (Nat×V)
 | _,[]=> []
 | i,.msl _ _ off len::as=> (i,.sl i 0 off len)::jR (i+1) as
 | i,.mptr _ _ idx off::as=> (i,.ptr i 0 idx off)::jR (i+1) as
 | i,v::as=> (i,v)::jR (i+1) as
def jS:Nat→List V→List (Nat×Obj)
 | _,[]=> []
 | i,.msl sz es _ _::as=> (i,{gen:=0,sz,arr:=true,fz:=false,es:=some es})::jS (i+1) as
 | i,.mptr sz es _ _::as=> (i,{gen:=0,sz,arr:=false,fz:=false,es:=some es})::jS (i+1) as
 | i,_::as=>jS (i+1) as
def vt (args:List V):SS:=⟨jR 0 args,jS 0 args⟩
theorem uw: ∀ (as pre:List V) (t:Nat) (v:V),lk (jR pre.length as) t=some v→(enter (pre++as)).T t=v
 | [],_,_,_,h=>by simp[jR,lk] at h
 | a::as,pre,t,v,h=>by
   have ih:=uw as (pre++[a]) t v
   simp only[List.length_append,List.length_cons,List.length_nil,Nat.zero_add,List.append_assoc,List.singleton_append] at ih
   have key: ∀x,lk ((pre.length,x)::jR (pre.length+1) as) t=some v→(enter (pre++a::as)).T pre.length=x→(enter (pre++a::as)).T t=v:=by
    intro x hx hv
    rw[ee] at hx
    by_cases e:pre.length=t
    · simp only[e,if_true,Option.some.injEq] at hx;rw[←hx,←hv,e]
    · simp only[e,if_false] at hx;exact ih hx
   have hg: (pre++a::as)[pre.length]? =some a:=by simp
   cases a
   case msl=>exact key _ (by simpa [jR] using h) (by simp[enter,hg])
   case mptr=>exact key _ (by simpa [jR] using h) (by simp[enter,hg])
   all_goals exact key _ (by simpa [jR] using h) (by simp[enter,hg])
theorem uz: ∀ (as pre:List V) (t:Nat) (v:Obj),lk (jS pre.length as) t=some v→(enter (pre++as)).O t=v
 | [],_,_,_,h=>by simp[jS,lk] at h
 | a::as,pre,t,v,h=>by
   have ih:=uz as (pre++[a]) t v
   simp only[List.length_append,List.length_cons,List.length_nil,Nat.zero_add,List.append_assoc,List.singleton_append] at ih
   have key: ∀x,lk ((pre.length,x)::jS (pre.length+1) as) t=some v→(enter (pre++a::as)).O pre.length=x→(enter (pre++a::as)).O t=v:=by
    intro x hx hv
    rw[ee] at hx
    by_cases e:pre.length=t
    · simp only[e,if_true,Option.some.injEq] at hx;rw[←hx,←hv,e]
    · simp only[e,if_false] at hx;exact ih hx
   have hg: (pre++a::as)[pre.length]? =some a:=by simp
   cases a
   case msl=>exact key _ (by simpa [jS] using h) (by simp[enter,hg])
   case mptr=>exact key _ (by simpa [jS] using h) (by simp[enter,hg])
   all_goals exact ih (by simpa [jS] using h)
theorem AE (args:List V): (vt args).On (enter args):=
 ⟨fun t v h=>uw args [] t v h,fun r o h=>uz args [] r o h⟩
theorem Ev.cQ {f:Nat} {af:aB} {args:List V} {R:fh→Prop} (hf:E.fn f=some af) (hx:E.ext f args=none) (hl:args.length=af.nparams)
  (h:oE E af.body (vt args) (yw af.results args R)) (ht:af.tag=none:=by rfl) (hh:E.hyb f=none:=by rfl): ∃res,Ev E f args res∧R res:=by
 obtain⟨n,e,σ',h1,S',h2,h3⟩:=cP h (AE args)
 have key: ∀ {e},exec E n af.body (enter args)=some (e,σ')→(e= .normal∨e= .ret)→vq af.results args S' R→ ∃res,Ev E f args res∧R res:=by
  intro e h1 he Uz
  obtain⟨res,h4,h5⟩:=vr h2 Uz
  refine⟨res,⟨n,?_⟩,h5⟩
  unfold call dL
  rw[hh];simp only[jP]
  rw[hx];simp only[hf,hl,if_true,ht,h1]
  rcases he with rfl| rfl<;>exact h4
 cases e with
 | normal=>exact key h1 (.inl rfl) h3
 | ret=>exact key h1 (.inr rfl) h3
 | exit id=>exact h3.elim
theorem Ev.cY {f:Nat} {af:aB} {args:List V} {res:fh} (hf:E.fn f=some af) (hx:E.ext f args=none) (hl:args.length=af.nparams)
  (h:oE E af.body (vt args) (yw af.results args (· =res))) (ht:af.tag=none:=by rfl) (hh:E.hyb f=none:=by rfl):Ev E f args res:=by
 obtain⟨r,h1,rfl⟩:=Ev.cQ hf hx hl h ht hh
 exact h1
end
end Go.AM
