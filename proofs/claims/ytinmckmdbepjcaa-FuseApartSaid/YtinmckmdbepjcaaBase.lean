/-
  Texts of the proof, joined by program: AmWp, AmSim, AmSortL, AmTab, AmHyb, AmS, AmS2, AmS3, AmS4, AmS5. Own work.
-/
import Derived.Test.YtinmckmdbepjcaaDefs
import Derived.Attr
set_option linter.unusedSimpArgs false
set_option linter.unusedVariables false
namespace Go.AM
def Gy (C C':bl):Prop:= ∀f as r,C f as=some r→C' f as=some r
theorem Act.iC {C C':bl} (h:Gy C C'): ∀ (a:Act) (σ:St) (r:V×St),a.run C σ=some r→a.run C' σ=some r
 | .done v,σ,r,e=>by simpa [Act.run] using e
 | .fail,σ,r,e=>by simp[Act.run] at e
 | .my t k,σ,r,e=>by simp only[Act.run] at e ⊢;exact Act.iC h _ _ _ e
 | .bY t k,σ,r,e=>by simp only[Act.run] at e ⊢;exact Act.iC h _ _ _ e
 | .bJ t o k,σ,r,e=>by simp only[Act.run] at e ⊢;exact Act.iC h _ _ _ e
 | .call f as k,σ,r,e=>by
   simp only[Act.run] at e ⊢
   split at e
   · rename_i res mH
     rw[h f as res mH]
     exact Act.iC h _ _ _ e
   · simp at e
theorem Act.gU {C C':bl} (h:Gy C C'): ∀ (a:Act) (σ:St) (r:V×St),a.run C σ=some r→a.dY C' σ=a.dY C σ
 | .done v,σ,r,e=>by simp[Act.dY]
 | .fail,σ,r,e=>by simp[Act.run] at e
 | .my t k,σ,r,e=>by simp only[Act.run] at e;simp only[Act.dY];rw[Act.gU h _ _ _ e]
 | .bY t k,σ,r,e=>by simp only[Act.run] at e;simp only[Act.dY];rw[Act.gU h _ _ _ e]
 | .bJ t o k,σ,r,e=>by simp only[Act.run] at e;simp only[Act.dY];rw[Act.gU h _ _ _ e]
 | .call f as k,σ,r,e=>by
   simp only[Act.run] at e
   simp only[Act.dY]
   split at e
   · rename_i res mH
     rw[h f as res mH]
     simp only
     exact Act.gU h _ _ _ e
   · simp at e
theorem tF {E:Env} {C C':bl} (h:Gy C C') {o:bF} {σ σ':St} (e:eK E C o σ=some σ'):eK E C' o σ=some σ':=by
 unfold eK at e ⊢
 split at e
 · rename_i v σ1 hr
   rw[Act.iC h _ _ _ hr];exact e
 · simp at e
theorem mI {E:Env} {C C':bl} (h:Gy C C'): ∀ {os:List bF} {σ σ':St},iL E C os σ=some σ'→iL E C' os σ=some σ'
 | [],_,_,e=>by simpa [iL] using e
 | o::os,_,_,e=>by
   simp only[iL] at e ⊢
   split at e
   · rename_i σ1 h1
     rw[tF h h1]
     exact mI h e
   · simp at e
theorem vj {E:Env} {C C':bl} (h:Gy C C') {o:bF} {σ σ':St} (e:eK E C o σ=some σ'):c7 E C' o σ=c7 E C o σ:=by
 unfold eK at e
 split at e
 · rename_i v σ1 hr
   simp only[c7,Act.gU h _ _ _ hr]
 · simp at e
theorem kq {E:Env} {C C':bl} (h:Gy C C'): ∀ {os:List bF} {b7:List eB} {before:List (List Nat)} {σ σ':St},dN E C os b7 before σ=some σ'→dN E C' os b7 before σ=some σ'
 | [],_,_,_,_,e=>by simpa [dN] using e
 | o::os,b7,before,σ,_,e=>by
   simp only[dN] at e ⊢
   split at e
   · rename_i hc
     split at e
     · rename_i σ1 h1
       rw[vj h h1,tF h h1,if_pos hc]
       exact kq h e
     · simp at e
   · simp at e
def MB (r r':az→St→Option (aW×St)):Prop:= ∀c σ x,r c σ=some x→r' c σ=some x
theorem r9 {E:Env} {r r':az→St→Option (aW×St)} (h:MB r r'):Gy (ju E r) (ju E r'):=by
 intro f as res e
 unfold ju at e ⊢
 split at e
 · exact e
 · split at e
   · split at e
     · rename_i hl
       rw[if_pos hl]
       split at e
       · split at e
         · rename_i σ hx;rw[h _ _ _ hx];exact e
         · rename_i σ hx;rw[h _ _ _ hx];exact e
         · simp at e
       · split at e
         · rename_i hp
           rw[if_pos hp]
           split at e
           · rename_i σ hx;rw[h _ _ _ hx];exact e
           · rename_i σ hx;rw[h _ _ _ hx];exact e
           · simp at e
         · simp at e
     · simp at e
   · simp at e
theorem oD {E:Env} {r r':az→St→Option (aW×St)} (h:MB r r'):Gy (dO E r) (dO E r'):=by
 intro f as res e
 unfold dO at e ⊢
 split at e
 · rename_i g hg
   exact E.mono f g hg _ _ (r9 h) _ _ e
 · exact r9 h _ _ _ e
theorem vk {E:Env} {C C':bl} (hC:Gy C C') {r r':az→St→Option (aW×St)} (h:MB r r'):MB (aJ E C r) (aJ E C' r'):=by
 intro c σ x e
 cases c with
 | skip=>simpa [aJ] using e
 | region ops=>
   simp only[aJ,Option.map_eq_some_iff] at e ⊢
   obtain⟨σ1,h1,h2⟩:=e
   exact⟨σ1,mI hC h1,h2⟩
 | drawn ops=>
   simp only[aJ,Option.map_eq_some_iff] at e ⊢
   obtain⟨σ1,h1,h2⟩:=e
   exact⟨σ1,kq hC h1,h2⟩
 | seq a b=>
   simp only[aJ] at e ⊢
   split at e
   · rename_i σ1 h1;rw[h _ _ _ h1];exact h _ _ _ e
   · rename_i hn
     rw[h _ _ _ e]
     rcases x with⟨ex,σ1⟩
     cases ex with
     | normal=>exact absurd e (by simpa using hn σ1)
     | _=>rfl
 | cond c a b=>
   simp only[aJ] at e ⊢
   split at e
   · exact h _ _ _ e
   · exact h _ _ _ e
   · simp at e
 | block id b=>
   simp only[aJ] at e ⊢
   split at e
   · rename_i jV σ1 h1;rw[h _ _ _ h1];exact e
   · rename_i hn
     rw[h _ _ _ e]
     rcases x with⟨ex,σ1⟩
     cases ex with
     | exit jV=>exact absurd e (by simpa using hn jV σ1)
     | _=>rfl
 | loop b=>
   simp only[aJ] at e ⊢
   split at e
   · rename_i σ1 h1;rw[h _ _ _ h1];exact h _ _ _ e
   · rename_i hn
     rw[h _ _ _ e]
     rcases x with⟨ex,σ1⟩
     cases ex with
     | normal=>exact absurd e (by simpa using hn σ1)
     | _=>rfl
 | exit id=>simpa [aJ] using e
 | ret=>simpa [aJ] using e
 | scope b=>simp only[aJ] at e ⊢;exact h _ _ _ e
 | bad=>simp[aJ] at e
 | mJ fx ps a b=>
   simp only[aJ] at e ⊢
   split at e
   · rename_i g caps hg
     try simp only[hg]
     split at e
     · rename_i xs Bq
       try simp only[Bq]
       split at e
       · rename_i hc
         try rw[if_pos hc]
         exact re h e
       · simp at e
     · simp at e
   · simp at e
 | keys it nx ne id kT kO hd b l=>
   simp only[aJ] at e ⊢
   split at e
   · rename_i ri g hT
     try simp only[hT]
     split at e
     · rename_i es hO
       try simp only[hO]
       split at e
       · rename_i hc
         try rw[if_pos hc]
         split at e
         · rename_i σ1 σs hr
           rw[lp (fun p y hy=>nJ h hy) hr]
           exact e
         · simp at e
       · simp at e
     · simp at e
   · simp at e
theorem vL {E:Env}: ∀n,MB (exec E n) (exec E (n+1))
 | 0=>by intro c σ x e;simp[exec] at e
 | n+1=>by
   have ih:=vL (E:=E) n
   have:=vk (E:=E) (oD (E:=E) ih) ih
   intro c σ x e
   simp only[exec] at e ⊢
   exact this _ _ _ e
theorem cH {E:Env} {n m:Nat} (h:n≤m):MB (exec E n) (exec E m):=by
 induction h with
 | refl=>exact fun _ _ _ e=>e
 | step _ ih=>exact fun c σ x e=>vL _ _ _ _ (ih c σ x e)
theorem fW {E:Env} {n m:Nat} (h:n≤m):Gy (call E n) (call E m):=oD (cH h)
def Ev (E:Env) (f:Nat) (args:List V) (res:fK):Prop:= ∃n,call E n f args=some res
def St.bJ (σ:St) (r:Nat) (o:Obj):St:={σ with O:=dm σ.O r o}
inductive Tg {α β:Type} (a:α) (b:β):Type
 | mk
def rf (E:Env) (a:Act) (σ:St) (Q:V→St→Prop) (_:Tg σ Q:= .mk):Prop:= ∃n v σ',a.run (call E n) σ=some (v,σ')∧Q v σ'
def GM (E:Env) (os:List bF) (σ:St) (Q:St→Prop) (_:Tg os (σ,Q):= .mk):Prop:= ∃n σ',iL E (call E n) os σ=some σ'∧Q σ'
def mz (E:Env) (c:az) (σ:St) (Q:aW→St→Prop) (_:Tg c (σ,Q):= .mk):Prop:= ∃n e σ',exec E n c σ=some (e,σ')∧Q e σ'
def pQ (E:Env) (a:Act) (σ:St) (Q:V→St→List Loc→List Loc→Prop) (_:Tg σ Q:= .mk):Prop:= ∃n v σ',a.run (call E n) σ=some (v,σ')∧Q v σ' (a.dY (call E n) σ).reads (a.dY (call E n) σ).writes
def Il (E:Env) (b7:List eB) (before:List (List Nat)) (os:List bF) (σ:St) (Q:St→Prop):Prop:= ∃n σ',dN E (call E n) os b7 before σ=some σ'∧Q σ'
section
variable {E:Env} {σ:St}
theorem mK {v:V} {Q:V→St→Prop}:rf E (.done v) σ Q=Q v σ:=by
 simp only[rf,Act.run,eq_iff_iff]
 constructor
 · rintro⟨_,_,_,h,q⟩;injection h with h;injection h with h1 h2;subst h1 h2;exact q
 · exact fun q=> ⟨0,_,_,rfl,q⟩
theorem pS {Q:V→St→Prop}:rf E .fail σ Q=False:=by
 simp[rf,Act.run]
theorem tG {t:Nat} {k:V→Act} {Q:V→St→Prop}:rf E (.my t k) σ Q=rf E (k (σ.T t)) σ Q:=by
 simp[rf,Act.run]
theorem kF {t:Nat} {k:Obj→Act} {Q:V→St→Prop}:rf E (.bY t k) σ Q=rf E (k (σ.O t)) σ Q:=by
 simp[rf,Act.run]
theorem mL {t:Nat} {o:Obj} {k:Act} {Q:V→St→Prop}:rf E (.bJ t o k) σ Q=rf E k (σ.bJ t o) Q:=by
 simp[rf,Act.run,St.bJ]
theorem wP {c:Prop} [Decidable c] {a b:Act} {Q:V→St→Prop}:rf E (if c then a else b) σ Q=if c then rf E a σ Q else rf E b σ Q:=by
 split<;>rfl
theorem tH {v:Option V} {Q:V→St→Prop}:rf E (c8 v) σ Q=match v with| some v=>Q v σ| none=>False:=by
 cases v<;>simp[c8,mK,pS]
theorem s7 {Q:St→Prop}:GM E [] σ Q=Q σ:=by simp[GM,iL]
theorem pT {o:bF} {os:List bF} {Q:St→Prop}:GM E (o::os) σ Q=rf E (dJ E o) σ fun v σ'=>GM E os (σ'.put o.dst v) Q:=by
 simp only[GM,rf,iL,eK,eq_iff_iff]
 constructor
 · rintro⟨n,σ2,h,q⟩
   split at h
   · rename_i σ1 h1
     split at h1
     · rename_i v σ0 h0
       injection h1 with h1;subst h1
       exact⟨n,v,σ0,h0,n,σ2,h,q⟩
     · simp at h1
   · simp at h
 · rintro⟨n,v,σ0,h0,m,σ2,h,q⟩
   refine⟨max n m,σ2,?_,q⟩
   rw[Act.iC (fW (Nat.le_max_left n m)) _ _ _ h0]
   exact mI (fW (Nat.le_max_right n m)) h
theorem kG {v:V} {Q:V→St→List Loc→List Loc→Prop}:pQ E (.done v) σ Q=Q v σ [] []:=by
 simp only[pQ,Act.run,Act.dY,eq_iff_iff]
 constructor
 · rintro⟨_,_,_,h,q⟩;injection h with h;injection h with h1 h2;subst h1 h2;exact q
 · exact fun q=> ⟨0,_,_,rfl,q⟩
theorem pU {Q:V→St→List Loc→List Loc→Prop}:pQ E .fail σ Q=False:=by
 simp[pQ,Act.run]
theorem pV {t:Nat} {k:V→Act} {Q:V→St→List Loc→List Loc→Prop}:pQ E (.my t k) σ Q=pQ E (k (σ.T t)) σ fun v σ' r w=>Q v σ' (.t t::r) w:=by
 simp[pQ,Act.run,Act.dY]
theorem mM {t:Nat} {k:Obj→Act} {Q:V→St→List Loc→List Loc→Prop}:pQ E (.bY t k) σ Q=pQ E (k (σ.O t)) σ fun v σ' r w=>Q v σ' (.o t::r) w:=by
 simp[pQ,Act.run,Act.dY]
theorem pW {t:Nat} {o:Obj} {k:Act} {Q:V→St→List Loc→List Loc→Prop}:pQ E (.bJ t o k) σ Q=pQ E k (σ.bJ t o) fun v σ' r w=>Q v σ' r (.o t::w):=by
 simp[pQ,Act.run,Act.dY,St.bJ]
theorem Eg {f:Nat} {as:List V} {k:fK→Act} {Q:V→St→List Loc→List Loc→Prop}:pQ E (.call f as k) σ Q= ∃res,Ev E f as res∧pQ E (k res) σ Q:=by
 simp only[pQ,eq_iff_iff]
 constructor
 · rintro⟨n,v,σ',h,q⟩
   simp only[Act.run,Act.dY] at h q
   split at h
   · rename_i res hr
     simp only[hr] at q
     exact⟨res,⟨n,hr⟩,n,v,σ',h,q⟩
   · simp at h
 · rintro⟨res,⟨n,hn⟩,m,v,σ',h,q⟩
   have e1:=fW (E:=E) (Nat.le_max_left n m) _ _ _ hn
   have e2:=Act.iC (fW (E:=E) (Nat.le_max_right n m)) _ _ _ h
   have e3:=Act.gU (fW (E:=E) (Nat.le_max_right n m)) _ _ _ h
   refine⟨max n m,v,σ',?_,?_⟩
   · simp only[Act.run,e1];exact e2
   · simp only[Act.dY,e1,e3];exact q
theorem wQ {c:Prop} [Decidable c] {a b:Act} {Q:V→St→List Loc→List Loc→Prop}:pQ E (if c then a else b) σ Q=if c then pQ E a σ Q else pQ E b σ Q:=by
 split<;>rfl
theorem tI {v:Option V} {Q:V→St→List Loc→List Loc→Prop}:pQ E (c8 v) σ Q=match v with| some v=>Q v σ [] [] | none=>False:=by
 cases v<;>simp[c8,kG,pU]
theorem GN {b7:List eB} {before:List (List Nat)} {Q:St→Prop}:Il E b7 before [] σ Q=Q σ:=by simp[Il,dN]
theorem Eh {b7:List eB} {before:List (List Nat)} {o:bF} {os:List bF} {Q:St→Prop}:
   Il E b7 before (o::os) σ Q=pQ E (dJ E o) σ fun v σ' r w=>
     (fits b7 (closure before o.pre) ⟨r,(match o.dst with| some d=> [.t d] | none=> [])++w⟩ b7.length &&o.pre.all (· <b7.length))=true∧
     Il E (b7++[⟨r,(match o.dst with| some d=> [.t d] | none=> [])++w⟩]) (before++[closure before o.pre]) os (σ'.put o.dst v) Q:=by
 have key: ∀n,dN E (call E n) (o::os) b7 before σ=if (fits b7 (closure before o.pre) (c7 E (call E n) o σ) b7.length &&o.pre.all (· <b7.length))=true then
     (match eK E (call E n) o σ with| some σ'=>dN E (call E n) os (b7++[c7 E (call E n) o σ]) (before++[closure before o.pre]) σ'| none=>none) else none:=fun n=>rfl
 have M8: ∀n v σ0,(dJ E o).run (call E n) σ=some (v,σ0)→eK E (call E n) o σ=some (σ0.put o.dst v):=fun n v σ0 h=>by simp only[eK,h]
 simp only[Il,pQ,eq_iff_iff]
 constructor
 · rintro⟨n,σ2,h,q⟩
   rw[key n] at h
   by_cases hc: (fits b7 (closure before o.pre) (c7 E (call E n) o σ) b7.length &&o.pre.all (· <b7.length))=true
   · rw[if_pos hc] at h
     cases h0: (dJ E o).run (call E n) σ with
     | none=>simp[eK,h0] at h
     | some p=>
       obtain⟨v,σ0⟩:=p
       rw[M8 n v σ0 h0] at h
       exact⟨n,v,σ0,h0,hc,n,σ2,h,q⟩
   · rw[if_neg hc] at h;simp at h
 · rintro⟨n,v,σ0,h0,hc,m,σ2,h,q⟩
   refine⟨max n m,σ2,?_,q⟩
   have e3:c7 E (call E (max n m)) o σ=c7 E (call E n) o σ:=by
     simp only[c7,Act.gU (fW (E:=E) (Nat.le_max_left n m)) _ _ _ h0]
   have zL: (fits b7 (closure before o.pre) (c7 E (call E n) o σ) b7.length &&o.pre.all (· <b7.length))=true:=hc
   rw[key,e3,if_pos zL,M8 _ v σ0 (Act.iC (fW (Nat.le_max_left n m)) _ _ _ h0)]
   exact kq (fW (Nat.le_max_right n m)) h
def andThen (Q:aW→St→Prop) (k:St→Prop) (_:Tg Q k:= .mk):aW→St→Prop
 | .normal,σ=>k σ
 | .exit id,σ=>Q (.exit id) σ
 | .ret,σ=>Q .ret σ
def tJ (id:Nat) (Q:aW→St→Prop) (_:Tg id Q:= .mk):aW→St→Prop
 | .exit jV,σ=>if jV=id then Q .normal σ else Q (.exit jV) σ
 | .normal,σ=>Q .normal σ
 | .ret,σ=>Q .ret σ
theorem iD {c:az} {Q Q':aW→St→Prop} (h:mz E c σ Q) (k: ∀e σ',Q e σ'→Q' e σ'):mz E c σ Q':=by
 obtain⟨n,e,σ',h1,h2⟩:=h
 exact⟨n,e,σ',h1,k _ _ h2⟩
theorem pX {Q:aW→St→Prop}:mz E .skip σ Q=Q .normal σ:=by
 simp only[mz,eq_iff_iff]
 constructor
 · rintro⟨n,e,σ',h,q⟩
   cases n<;>simp[exec,aJ] at h
   obtain⟨rfl,rfl⟩:=h;exact q
 · exact fun q=> ⟨1,_,_,by simp[exec,aJ],q⟩
theorem pY {id:Nat} {Q:aW→St→Prop}:mz E (.exit id) σ Q=Q (.exit id) σ:=by
 simp only[mz,eq_iff_iff]
 constructor
 · rintro⟨n,e,σ',h,q⟩
   cases n<;>simp[exec,aJ] at h
   obtain⟨rfl,rfl⟩:=h;exact q
 · exact fun q=> ⟨1,_,_,by simp[exec,aJ],q⟩
theorem s8 {Q:aW→St→Prop}:mz E .ret σ Q=Q .ret σ:=by
 simp only[mz,eq_iff_iff]
 constructor
 · rintro⟨n,e,σ',h,q⟩
   cases n<;>simp[exec,aJ] at h
   obtain⟨rfl,rfl⟩:=h;exact q
 · exact fun q=> ⟨1,_,_,by simp[exec,aJ],q⟩
theorem nK {b:az} {Q:aW→St→Prop}:mz E (.scope b) σ Q=mz E b σ Q:=by
 simp only[mz,eq_iff_iff]
 constructor
 · rintro⟨n,e,σ',h,q⟩
   cases n with
   | zero=>simp[exec] at h
   | succ n=>simp only[exec,aJ] at h;exact⟨n,e,σ',h,q⟩
 · rintro⟨n,e,σ',h,q⟩
   exact⟨n+1,e,σ',by simpa only[exec,aJ] using h,q⟩
theorem lq {ops:List bF} {Q:aW→St→Prop}:mz E (.region ops) σ Q=GM E ops σ (Q .normal):=by
 simp only[mz,GM,eq_iff_iff]
 constructor
 · rintro⟨n,e,σ',h,q⟩
   cases n with
   | zero=>simp[exec] at h
   | succ n=>
     simp only[exec,aJ,Option.map_eq_some_iff] at h
     obtain⟨σ1,h1,h2⟩:=h
     injection h2 with h2 h3
     subst h2 h3
     exact⟨n,_,h1,q⟩
 · rintro⟨n,σ',h,q⟩
   exact⟨n+1,_,σ',by simp only[exec,aJ,Option.map_eq_some_iff];exact⟨σ',h,rfl⟩,q⟩
theorem Cm {ops:List bF} {Q:aW→St→Prop}:mz E (.drawn ops) σ Q=Il E [] [] ops σ (Q .normal):=by
 simp only[mz,Il,eq_iff_iff]
 constructor
 · rintro⟨n,e,σ',h,q⟩
   cases n with
   | zero=>simp[exec] at h
   | succ n=>
     simp only[exec,aJ,Option.map_eq_some_iff] at h
     obtain⟨σ1,h1,h2⟩:=h
     injection h2 with h2 h3
     subst h2 h3
     exact⟨n,_,h1,q⟩
 · rintro⟨n,σ',h,q⟩
   exact⟨n+1,_,σ',by simp only[exec,aJ,Option.map_eq_some_iff];exact⟨σ',h,rfl⟩,q⟩
theorem s9 {a b:az} {Q:aW→St→Prop}:mz E (.seq a b) σ Q=mz E a σ (andThen Q fun σ'=>mz E b σ' Q):=by
 simp only[mz,eq_iff_iff]
 constructor
 · rintro⟨n,e,σ',h,q⟩
   cases n with
   | zero=>simp[exec] at h
   | succ n=>
     simp only[exec,aJ] at h
     split at h
     · rename_i σ1 h1
       exact⟨n,_,_,h1,n,e,σ',h,q⟩
     · rename_i hn
       refine⟨n,e,σ',h,?_⟩
       cases e with
       | normal=>exact absurd h (by simpa using hn σ')
       | exit id=>exact q
       | ret=>exact q
 · rintro⟨n,e,σ1,h,q⟩
   cases e with
   | normal=>
     obtain⟨m,e,σ',h',q⟩:=q
     refine⟨max n m+1,e,σ',?_,q⟩
     simp only[exec,aJ,cH (Nat.le_max_left n m) _ _ _ h]
     exact cH (Nat.le_max_right n m) _ _ _ h'
   | exit id=>exact⟨n+1,_,_,by simp only[exec,aJ,h],q⟩
   | ret=>exact⟨n+1,_,_,by simp only[exec,aJ,h],q⟩
theorem pZ {c:aT} {a b:az} {Q:aW→St→Prop}:mz E (.cond c a b) σ Q=match bn σ c with| .bool true=>mz E a σ Q| .bool false=>mz E b σ Q| _=>False:=by
 simp only[mz,eq_iff_iff]
 constructor
 · rintro⟨n,e,σ',h,q⟩
   cases n with
   | zero=>simp[exec] at h
   | succ n=>
     simp only[exec,aJ] at h
     split at h
     · rename_i he;simp only[he];exact⟨n,e,σ',h,q⟩
     · rename_i he;simp only[he];exact⟨n,e,σ',h,q⟩
     · simp at h
 · intro h
   split at h
   · rename_i he
     obtain⟨n,e,σ',h,q⟩:=h
     exact⟨n+1,e,σ',by simp only[exec,aJ,he];exact h,q⟩
   · rename_i he
     obtain⟨n,e,σ',h,q⟩:=h
     exact⟨n+1,e,σ',by simp only[exec,aJ,he];exact h,q⟩
   · exact h.elim
theorem nL {id:Nat} {b:az} {Q:aW→St→Prop}:mz E (.block id b) σ Q=mz E b σ (tJ id Q):=by
 simp only[mz,eq_iff_iff]
 constructor
 · rintro⟨n,e,σ',h,q⟩
   cases n with
   | zero=>simp[exec] at h
   | succ n=>
     simp only[exec,aJ] at h
     split at h
     · rename_i jV σ1 h1
       refine⟨n,_,_,h1,?_⟩
       simp only[tJ]
       split at h
       · rename_i hi
         simp only[Option.some.injEq,Prod.mk.injEq] at h
         obtain⟨rfl,rfl⟩:=h
         simp only[hi,if_true];exact q
       · rename_i hi
         simp only[Option.some.injEq,Prod.mk.injEq] at h
         obtain⟨rfl,rfl⟩:=h
         simp only[hi,if_false];exact q
     · rename_i hn
       refine⟨n,e,σ',h,?_⟩
       cases e with
       | exit jV=>exact absurd h (by simpa using hn jV σ')
       | normal=>exact q
       | ret=>exact q
 · rintro⟨n,e,σ1,h,q⟩
   cases e with
   | exit jV=>
     simp only[tJ] at q
     by_cases hi:jV=id
     · simp only[hi,if_true] at q
       exact⟨n+1,_,_,by simp only[exec,aJ,h,hi,if_true],q⟩
     · simp only[hi,if_false] at q
       exact⟨n+1,_,_,by simp only[exec,aJ,h,hi,if_false],q⟩
   | normal=>exact⟨n+1,_,_,by simp only[exec,aJ,h],q⟩
   | ret=>exact⟨n+1,_,_,by simp only[exec,aJ,h],q⟩
theorem Ei {b:az} {Q:aW→St→Prop}:mz E (.loop b) σ Q=mz E b σ (andThen Q fun σ'=>mz E (.loop b) σ' Q):=by
 simp only[mz,eq_iff_iff]
 constructor
 · rintro⟨n,e,σ',h,q⟩
   cases n with
   | zero=>simp[exec] at h
   | succ n=>
     simp only[exec,aJ] at h
     split at h
     · rename_i σ1 h1
       exact⟨n,_,_,h1,n,e,σ',h,q⟩
     · rename_i hn
       refine⟨n,e,σ',h,?_⟩
       cases e with
       | normal=>exact absurd h (by simpa using hn σ')
       | exit id=>exact q
       | ret=>exact q
 · rintro⟨n,e,σ1,h,q⟩
   cases e with
   | normal=>
     obtain⟨m,e,σ',h',q⟩:=q
     refine⟨max n m+1,e,σ',?_,q⟩
     simp only[exec,aJ,cH (Nat.le_max_left n m) _ _ _ h]
     exact cH (Nat.le_max_right n m) _ _ _ h'
   | exit id=>exact⟨n+1,_,_,by simp only[exec,aJ,h],q⟩
   | ret=>exact⟨n+1,_,_,by simp only[exec,aJ,h],q⟩
theorem xQ {b:az} {Q:aW→St→Prop} (I:Nat→St→Prop) (hI: ∀k σ,I k σ→mz E b σ (andThen Q fun σ'=> ∃j,j<k∧I j σ')):
   ∀ (k:Nat) (σ:St),I k σ→mz E (.loop b) σ Q:=by
 intro k
 induction k using Nat.strongRecOn with
 | _ k ih=>
   intro σ h
   rw[Ei]
   refine iD (hI k σ h) fun e σ' he=> ?_
   cases e with
   | normal=>obtain⟨j,hj,h'⟩:=he;exact ih j hj σ' h'
   | exit id=>exact he
   | ret=>exact he
def fin (rs:List p8) (args:List V) (res:fK):aW→St→Prop
 | .exit _,_=>False
 | .normal,σ=>leave ⟨0,0,[],rs,.skip,none⟩ args σ=some res
 | .ret,σ=>leave ⟨0,0,[],rs,.skip,none⟩ args σ=some res
theorem Ev.ext {f:Nat} {args:List V} {res:fK} (h:E.ext f args=some res) (hh:E.hyb f=none:=by rfl):Ev E f args res:=⟨0,by simp[call,dO,ju,h,hh]⟩
end
end Go.AM
namespace Go.AM
section
variable {E:Env} {σ:St}
def rj (E:Env):List bF→St→(List eB→St→Prop)→Prop
 | [],σ,Q=>Q [] σ
 | o::os,σ,Q=>pQ E (dJ E o) σ fun v σ' r w=>rj E os (σ'.put o.dst v) fun fs σ''=>Q (⟨r,(match o.dst with| some d=> [.t d] | none=> [])++w⟩::fs) σ''
def M9 (E:Env) (os:List bF) (σ:St) (Q:List eB→St→Prop) (_:Tg os (σ,Q):= .mk):Prop:=rj E os σ Q
def rk (d:Option Nat) (w:List Loc):List Loc:=match d with| some d=> .t d::w| none=>w
theorem td {Q:List eB→St→Prop}:M9 E [] σ Q=Q [] σ:=rfl
theorem p9 {o:bF} {os:List bF} {Q:List eB→St→Prop}:M9 E (o::os) σ Q=pQ E (dJ E o) σ fun v σ' r w=>M9 E os (σ'.put o.dst v) fun fs σ''=>Q (⟨r,rk o.dst w⟩::fs) σ'':=by
 have: ∀w,(match o.dst with| some d=> [Loc.t d] | none=> [])++w=rk o.dst w:=by intro w;cases o.dst<;>rfl
 have h2: (fun (v:V) (σ':St) (r w:List Loc)=>rj E os (σ'.put o.dst v) fun fs σ''=>Q (⟨r,(match o.dst with| some d=> [.t d] | none=> [])++w⟩::fs) σ'')=(fun v σ' r w=>rj E os (σ'.put o.dst v) fun fs σ''=>Q (⟨r,rk o.dst w⟩::fs) σ''):=by
  funext v σ' r w;rw[this]
 show pQ E (dJ E o) σ (fun (v:V) (σ':St) (r w:List Loc)=>rj E os (σ'.put o.dst v) fun fs σ''=>Q (⟨r,(match o.dst with| some d=> [.t d] | none=> [])++w⟩::fs) σ'')=_
 rw[h2];rfl
def Im:List (List Nat)→List (List Nat)→List eB→List eB→Bool
 | [],_,_,_=>true
 | p::ps,before,b7,f::rest=> (fits b7 (closure before p) f b7.length &&p.all (· <b7.length)) &&Im ps (before++[closure before p]) (b7++[f]) rest
 | _::_,_,_,[]=>false
theorem mN {a:Act} {Q Q':V→St→List Loc→List Loc→Prop} (h:pQ E a σ Q) (k: ∀v σ' r w,Q v σ' r w→Q' v σ' r w):pQ E a σ Q':=by
 obtain⟨n,v,σ',h1,h2⟩:=h
 exact⟨n,v,σ',h1,k _ _ _ _ h2⟩
theorem qa: ∀ {os:List bF} {σ:St} {Q Q':List eB→St→Prop},rj E os σ Q→(∀fs σ',Q fs σ'→Q' fs σ')→rj E os σ Q'
 | [],_,_,_,h,k=>k _ _ h
 | o::os,_,_,_,h,k=>by
   simp only[rj] at h ⊢
   exact mN h fun v σ' r w h'=>qa h' fun fs σ'' VX=>k _ _ VX
theorem Ej {Q:St→Prop}: ∀ {os:List bF} {σ:St} {b7:List eB} {before:List (List Nat)},
   rj E os σ (fun fs σ'=>Im (os.map (·.pre)) before b7 fs=true∧Q σ')→Il E b7 before os σ Q
 | [],_,_,_,h=>by rw[GN];exact h.2
 | o::os,σ,b7,before,h=>by
   rw[Eh]
   simp only[rj,List.map_cons,Im,Bool.and_eq_true] at h
   refine mN h fun v σ' r w h'=> ?_
   have h1:rj E os (σ'.put o.dst v) (fun fs σ''=> (fits b7 (closure before o.pre) ⟨r,(match o.dst with| some d=> [.t d] | none=> [])++w⟩ b7.length &&o.pre.all (· <b7.length))=true):=
    qa h' fun fs σ'' hh=>by
      have:=hh.1
      simp only[List.map_cons,Im,Bool.and_eq_true] at this
      simp only[Bool.and_eq_true];exact this.1
   have const: ∀ {os:List bF} {σ:St} {p:Prop},rj E os σ (fun _ _=>p)→p:=by
    intro os
    induction os with
    | nil=>intro σ p h;exact h
    | cons o os ih=>
      intro σ p h
      simp only[rj] at h
      obtain⟨n,v,σ',_,h2⟩:=h
      exact ih h2
   refine⟨const h1,Ej (qa h' fun fs σ'' hh=> ⟨by have:=hh.1;simp only[List.map_cons,Im,Bool.and_eq_true] at this;exact this.2,hh.2⟩)⟩
theorem wR {ops:List bF} {Q:aW→St→Prop} (h:M9 E ops σ (fun fs σ'=>Im (ops.map (·.pre)) [] [] fs=true∧Q .normal σ')):mz E (.drawn ops) σ Q:=by
 rw[Cm];exact Ej h
theorem Ek {d t:Nat} {v:V}: (σ.put (some d) v).T t=if t=d then v else σ.T t:=rfl
theorem El {d:Option Nat} {r:Nat} {v:V}: (σ.put d v).O r=σ.O r:=by cases d<;>rfl
theorem tK {v:V}:σ.put none v=σ:=rfl
theorem zU {r t:Nat} {o:Obj}: (σ.bJ r o).T t=σ.T t:=rfl
theorem zV {r r':Nat} {o:Obj}: (σ.bJ r o).O r'=if r'=r then o else σ.O r':=rfl
theorem j3 {t:Nat}:bn σ (.tmp t)=σ.T t:=rfl
theorem iq {v:V}:bn σ (.const v)=v:=rfl
theorem ir: ∀ {cs:List V},V.aq cs=true→ ∀ {x:V},x ∈ cs→x.aE=true
 | [],_,x,h=>by simp at h
 | c::cs,h,x,hx=>by
   simp only[V.aq,Bool.and_eq_true] at h
   rcases List.mem_cons.1 hx with rfl| hx
   · exact h.1
   · exact ir h.2 hx
theorem pd: ∀ {cs:List V},(∀x ∈ cs,V.aE x=true)→V.aq cs=true
 | [],_=>rfl
 | c::cs,h=>by
   simp only[V.aq,Bool.and_eq_true]
   exact⟨h c (by simp),pd fun x hx=>h x (by simp[hx])⟩
theorem fP {args:List V} (h:V.aq args=true):enter args=⟨fun t=>args.getD t dG,fun _=>bK⟩:=by
 have key: ∀ (t:Nat) (a:V),args[t]? =some a→a.aE=true:=fun t a ht=>ir h (List.mem_of_getElem? ht)
 unfold enter
 congr 1
 · funext t
   cases ha:args[t]? with
   | none=>simp[List.getD,ha]
   | some a=>have:=key t a ha;simp only[List.getD,ha,Option.getD_some];cases a<;>simp_all[V.aE]
 · funext t
   cases ha:args[t]? with
   | none=>rfl
   | some a=>have:=key t a ha;cases a<;>simp_all[V.aE]
theorem jv {bL:Bool} {r:Nat} {gs:List (Nat×Nat×Nat)} {v:V} {k:V→Act} (h:v.aE=true):cz bL r gs v k=k v:=by
 simp[cz,h]
end
def lr (sz lim:Nat):List V→Option fK
 | [.nils]=>some ⟨.own sz [],[]⟩
 | [.lit sz' xs]=>if sz'=sz∧xs.length≤lim then some ⟨.own sz xs,[]⟩ else none
 | _=>none
def Em:List V→Option fK
 | [.float b]=>match FloatKind.f64.format.sqrt b with
   | some r=>some ⟨.float r,[]⟩
   | none=>none
 | _=>none
theorem tL {v:V} {k:V→Act} (h:v.aE=true):sa v k=k v:=by
 cases v<;>simp_all[sa]
theorem fX {O:Nat→Obj}: ∀ {args:List V} {i:Nat},V.aq args=true→bX O i args=some []
 | [],_,_=>rfl
 | a::as,i,h=>by
   simp only[V.aq,Bool.and_eq_true] at h
   have:=fX (O:=O) (i:=i+1) h.2
   cases a<;>simp_all[bX,V.aE]
theorem lu {n:Nat} {σ:St} {v:V} (h:v.aE=true):cF n σ v=some (v,[]):=by
 simp[cF,h]
theorem rp {sz:Nat} {v:V} (h:v.aN=true):part false 0 sz v=some v:=by
 cases v<;>simp_all[part,V.aN]
def xR (sz:Nat) (xs:List V) (v:V):Prop:=v= .lit sz xs∨v= .nils∧xs=[]
theorem xR.pure {sz:Nat} {xs:List V} {v:V} (h:xR sz xs v):v.aE=true:=by
 rcases h with rfl| ⟨rfl,_⟩ <;>rfl
theorem xR.len {sz:Nat} {xs:List V} {v:V} (h:xR sz xs v):oz v=some (.int .i64 xs.length):=by
 rcases h with rfl| ⟨rfl,rfl⟩ <;>rfl
theorem xR.lit {sz:Nat} {xs:List V}:xR sz xs (.lit sz xs):= .inl rfl
theorem xR.aN {sz:Nat} {xs:List V} {v:V} (h:xR sz xs v):v.aN=true:=by
 rcases h with rfl| ⟨rfl,_⟩ <;>rfl
def gV (sz:Nat) (v i:V):Act:=
 match v,i with
 | .sl r g off len,.int _ n=> .bY r fun o=>if 0≤n∧n<len∧o.sz=sz∧o.gen=g then .done (.ptr r g (off+n.toNat) 0) else .fail
 | .lit sz' xs,.int _ n=>if 0≤n∧sz'=sz then match xs[n.toNat]? with
    | some e=> .done (.eptr e 0)
    | none=> .fail
   else .fail
 | .litk sz' xs,.int _ n=>if 0≤n∧sz'=sz∧0 <sz then match xs[n.toNat]? with
    | some e=> .done (.epk n.toNat sz e 0)
    | none=> .fail
   else .fail
 | _,_=> .fail
theorem iu {E:Env} {sz:Nat} {x i:aT}:av E (.indexAddr sz x i)=ev x fun v=>ev i fun i=>gV sz v i:=rfl
def pf ( sz:Nat) (v:V) (l h m:Option V):Act:=
 match v with
 | .sl r g off len=> .bY r fun o=>match o.es with
   | some es=>if o.gen=g∧o.sz=sz then
      match bM 0 l,bM len h,m with
      | some l,some h,none=>if l≤h∧off+h≤es.length then .done (.sl r g (off+l) (h - l)) else .fail
      | some l,some h',some m=>match h,bM 0 (some m) with
        | some _,some m=>if l≤h'∧h'≤m∧off+m≤es.length then .done (if m=l then .nils else .any) else .fail
        | _,_=> .fail
      | _,_,_=> .fail
     else .fail
   | none=> .fail
 | v=>c8 (jw sz v l h m)
theorem nM {E:Env} {sz:Nat} {x:aT} {lo hi mx:Option aT}:av E (.slice sz x lo hi mx)=ev x fun v=>u9 lo fun l=>u9 hi fun h=>u9 mx fun m=>pf sz v l h m:=rfl
def tM (r sz lim:Nat) (s:V) (ys:List V):Act:=
 if ys.all (aQ · sz) &&decide (0 <sz) then match s with
  | .nils=>if ys.isEmpty then .done .nils else if ys.length≤lim then
      .bY r fun o=> .bJ r {gen:=o.gen+1,sz,arr:=true,fz:=false,es:=some ys} (.done (.sl r (o.gen+1) 0 ys.length)) else .fail
  | .lit sz' xs=>if ys.isEmpty then .done (.lit sz' xs) else .fail
  | .sl r' g off len=> .bY r' fun o=>match o.es with
    | some es=>if o.gen=g∧o.arr=true∧o.fz=false∧o.sz=sz∧off+len≤es.length∧len+ys.length≤lim then
        if off+len+ys.length≤es.length then
             .bJ r' {o with es:=some (overwrite es (off+len) ys)} (.done (.sl r' g off (len+ys.length)))
        else
             .bJ r' {o with gen:=g+1,es:=some (aO es off len++ys)} (.done (.sl r' (g+1) 0 (len+ys.length)))
      else .fail
    | none=> .fail
  | _=> .fail
  else .fail
theorem lz {E:Env} {r sz lim:Nat} {s x:aT}:av E (.append r sz lim s x)=ev s fun s=>ev x fun x=>content sz x fun ys=>gm ys fun ys=>tM r sz lim s ys:=rfl
theorem rq {ys:List V} {k:List V→Act} (h:V.aq ys=true):gm ys k=k ys:=by simp[gm,h]
theorem En {r sz lim r' g off len:Nat} {ys:List V} (h:ys.all (aQ · sz)=true) (h0:0 <sz):tM r sz lim (.sl r' g off len) ys= .bY r' fun o=>match o.es with
  | some es=>if o.gen=g∧o.arr=true∧o.fz=false∧o.sz=sz∧off+len≤es.length∧len+ys.length≤lim then
     if off+len+ys.length≤es.length then
      .bJ r' {o with es:=some (overwrite es (off+len) ys)} (.done (.sl r' g off (len+ys.length)))
     else
      .bJ r' {o with gen:=g+1,es:=some (aO es off len++ys)} (.done (.sl r' (g+1) 0 (len+ys.length)))
    else .fail
  | none=> .fail:=by
 simp only[tM]
 rw[h];simp[h0]
theorem gX {α:Type} (f:α→V) (l:List α) (a b:Nat):AM.aO (l.map f) a b=((l.drop a).take b).map f:=by
 simp[AM.aO,List.map_take,List.map_drop]
theorem lA {xs:List V} {n:Nat} (h:n=xs.length):AM.aO xs 0 n=xs:=by
 subst h;simp[AM.aO]
def firstIdx {α:Type} (p:α→Bool) (xs:List α):Int:=match xs.findIdx? p with
 | some i=>i
 | none=> -1
theorem Zt {α:Type} {p:α→Bool} {xs:List α} {i:Nat} {x:α} (h: ∀j y,j<i→xs[j]? =some y→p y=false) (hx:xs[i]? =some x) (hp:p x=true):firstIdx p xs=i:=by
 have:xs.findIdx? p=some i:=by
  rw[List.findIdx?_eq_some_iff_getElem]
  obtain⟨hl,hv⟩:=List.getElem?_eq_some_iff.1 hx
  refine⟨hl,by rw[hv];exact hp,fun j hj=> ?_⟩
  have:=h j _ hj (List.getElem?_eq_getElem (by omega))
  simp[this]
 simp[firstIdx,this]
theorem firstIdx_none {α:Type} {p:α→Bool} {xs:List α} (h: ∀ (j:Nat) (y:α),xs[j]? =some y→p y=false):firstIdx p xs= -1:=by
 have:xs.findIdx? p=none:=by
  rw[List.findIdx?_eq_none_iff]
  intro x hx
  obtain⟨j,hj⟩:=List.mem_iff_getElem?.1 hx
  exact h j x hj
 simp[firstIdx,this]
theorem qb (a b:Int): (a==b)=decide (a=b):=by
 by_cases h:a=b
 · simp[h]
 · simp[h]
theorem wS (a b:Int): (a !=b)= !decide (a=b):=by simp[bne,qb]
theorem wrap64 {n:Int} (h0: -9223372036854775808≤n) (h1:n≤9223372036854775807):IntKind.i64.wrap n=n:=by
 simp[IntKind.wrap,IntKind.bits,IntKind.signed]
 omega
attribute [go_sem] s9 lq pX pY s8 nK nL pZ pT s7 p9 td dJ iu nM lz av.j4 tG kF mL mK pS tH wP pV mM pW kG pU tI wQ aQ V.dh V.aE V.aq V.isScalar V.bC tL fX lu jv rp Ek El zU zV tK rk bK andThen tJ j3 iq Eo dG fK.mk.injEq V.int.injEq V.tuple.injEq List.cons.injEq V.bool.injEq V.str.injEq V.agg.injEq List.getD_cons_zero List.getD_cons_succ List.getD_nil List.length_cons List.length_nil List.getElem?_cons_zero List.getElem?_cons_succ List.set_cons_zero List.set_cons_succ List.take_succ_cons List.take_zero List.drop_succ_cons List.drop_zero List.take_nil List.drop_nil List.cons_append List.nil_append List.append_nil Nat.zero_add Nat.add_zero BEq.rfl Bool.true_or Bool.or_true Bool.false_or Bool.or_false Bool.and_true Bool.true_and Bool.and_false Bool.false_and Bool.and_self Bool.or_self Bool.false_eq_true Bool.true_eq_false Bool.not_true Bool.not_false Nat.lt_add_one Nat.le_refl decide_true decide_false decide_eq_true_eq if_true if_false true_and and_true and_self false_and and_false Nat.sub_zero Option.some.injEq Nat.zero_lt_one Nat.lt_irrefl ne_eq not_true_eq_false not_false_eq_true V.cells.eq_1 V.cells.eq_2 V.isAgg.eq_1 V.isAgg.eq_2 V.aN.eq_1 V.aN.eq_2 V.aN.eq_3 V.aN.eq_4 V.aN.eq_5 V.aN.eq_6 V.aN.eq_7 V.isTuple.eq_1 V.isTuple.eq_2 AM.part.eq_1 AM.part.eq_2 AM.part.eq_3 AM.part.eq_4 AM.dj.eq_1 AM.dj.eq_2 AM.dj.eq_3 AM.dj.eq_4 oz.eq_1 oz.eq_2 oz.eq_3 oz.eq_4 bM.eq_1 bM.eq_2 bM.eq_3 eP.eq_1 eP.eq_2 content.eq_1 content.eq_2 content.eq_3 content.eq_4 content.eq_5 dE.eq_1 dE.eq_2 cp.eq_1 cp.eq_2 sa.eq_1 sa.eq_2 cm.eq_1 cm.eq_2 cm.eq_3 cm.eq_4 cm.eq_5 cm.eq_6 dP.eq_1 dP.eq_2 gm.eq_1 gm.go.eq_1 gm.go.eq_2 cz.eq_1 cz.eq_2 eC.eq_1 eC.eq_2 dQ.eq_1 dQ.eq_2 b0.eq_1 b0.eq_2 b0.eq_3 cG.eq_1 cG.eq_2 bP.eq_1 bP.eq_2 bG.eq_1 bG.eq_2 cF.eq_1 cF.eq_2 cF.eq_3 cr.eq_1 cr.eq_2 eL.eq_1 eL.eq_2 db.eq_1 db.eq_2 bX.eq_1 bX.eq_2 bX.eq_3 bX.eq_4 cf.eq_1 cf.eq_2 cf.eq_3 cf.eq_4 cf.eq_5 cf.eq_6 cf.eq_7 cf.eq_8 cf.eq_9 cf.eq_10 cf.eq_11 cf.eq_12 cf.eq_13 cf.eq_14 cf.eq_15 cf.eq_16 cf.eq_17 cf.eq_18 cf.eq_19 cf.eq_20 cf.eq_21 dw.eq_1 dw.eq_2 dw.eq_3 dw.eq_4 dw.eq_5 dw.eq_6 dw.eq_7 zW.eq_1 zW.eq_2 zW.eq_3 zW.eq_4 min2.eq_1 min2.eq_2 max2.eq_1 max2.eq_2 gQ.eq_1 gQ.eq_2 gq.eq_1 gq.eq_2 vM.eq_1 vM.eq_2 vM.eq_3 vM.eq_4 fQ.eq_1 fQ.eq_2 fQ.eq_3 eT.eq_1 eT.eq_2 eh.eq_1 eh.eq_2 ev.eq_1 ev.eq_2 vN.eq_1 vN.eq_2 u9.eq_1 u9.eq_2 gV.eq_1 gV.eq_2 gV.eq_3 c8.eq_1 c8.eq_2 leave.eq_1 distinct.eq_1 distinct.eq_2 fin.eq_1 fin.eq_2 fin.eq_3 av.eq_1 av.eq_2 av.eq_3 av.eq_4 av.eq_5 av.eq_6 av.eq_7 av.eq_8 av.eq_9 av.eq_10 av.eq_11 av.eq_12 av.eq_13 av.eq_14 av.eq_15 av.eq_16 av.eq_17 av.eq_18 av.eq_19 av.eq_20 av.eq_21 av.eq_23 av.eq_24 av.eq_26 av.eq_27 av.eq_28 av.eq_29 av.eq_30 av.eq_31 av.eq_32 av.eq_34 av.eq_35 av.eq_36 av.eq_37 av.eq_38 pf.eq_1 apart cA.eq_1 cA.eq_2 cW.eq_1 cW.eq_2 cW.eq_3 fq.eq_1 fq.eq_2 List.map_nil List.map_cons List.all_nil List.all_cons List.contains_nil List.contains_cons jw.eq_1 jw.eq_2 Option.isSome_some Option.isSome_none Option.isNone_none Option.isNone_some qb wS bne_self_eq_false Bool.bne_true Bool.bne_false Bool.true_bne Bool.false_bne lA List.isEmpty_cons List.isEmpty_nil eq_self List.replicate_succ List.replicate_zero rq Int.cast_ofNat_Int Int.toNat_zero Int.toNat_one Int.neg_ofNat_le_ofNat Int.natCast_nonneg Int.toNat_natCast Int.toNat_natCast_add_one Int.ofNat_lt wrap64 Int.le_refl
end Go.AM
namespace Go.AM
section
variable {α:Type}
def zX (le:α→α→Bool) (x:α):List α→List α
 | []=> [x]
 | y::ys=>if le x y then x::y::ys else y::zX le x ys
def mg (le:α→α→Bool):List α→List α
 | []=> []
 | x::xs=>zX le x (mg le xs)
theorem ru (le:α→α→Bool) (x:α): ∀l:List α,(zX le x l).Perm (x::l)
 | []=> .refl _
 | y::ys=>by
   unfold zX
   split
   · exact .refl _
   · exact((ru le x ys).cons y).trans (.swap x y ys)
theorem pg (le:α→α→Bool): ∀l:List α,(mg le l).Perm l
 | []=> .refl _
 | x::xs=> (ru le x _).trans ((pg le xs).cons x)
theorem sb {le:α→α→Bool} (ht: ∀a b c,le a b=true→le b c=true→le a c=true) (hl: ∀a b,(le a b || le b a)=true) (x:α): ∀ {l:List α},l.Pairwise (le · ·)→(zX le x l).Pairwise (le · ·)
 | [],_=>by simp[zX]
 | y::ys,h=>by
   unfold zX
   split
   · rename_i D6
     rw[List.pairwise_cons] at h ⊢
     exact⟨fun z hz=>by
       rcases List.mem_cons.1 hz with rfl| hz
       · exact D6
       · exact ht _ _ _ D6 (h.1 z hz),List.pairwise_cons.2 h⟩
   · rename_i D6
     rw[List.pairwise_cons] at h ⊢
     refine⟨fun z hz=> ?_,sb ht hl x h.2⟩
     have hz:=(ru le x ys).mem_iff.1 hz
     rcases List.mem_cons.1 hz with rfl| hz
     · have:=hl z y
       simp only[Bool.or_eq_true] at this
       exact this.resolve_left D6
     · exact h.1 z hz
theorem qc {le:α→α→Bool} (ht: ∀a b c,le a b=true→le b c=true→le a c=true) (hl: ∀a b,(le a b || le b a)=true): ∀l:List α,(mg le l).Pairwise (le · ·)
 | []=>by simp[mg]
 | x::xs=>sb ht hl x (qc ht hl xs)
theorem Cn {le:α→α→Bool} (ha: ∀a b,le a b=true→le b a=true→a=b): ∀ {l l':List α},l.Perm l'→l.Pairwise (le · ·)→l'.Pairwise (le · ·)→l=l':=by
 intro l l' hp h h'
 exact hp.eq_of_pairwise (fun a b _ _ h1 h2=>ha a b h1 h2) h h'
theorem sQ {le:α→α→Bool} (ha: ∀a b,le a b=true→le b a=true→a=b) (ht: ∀a b c,le a b=true→le b c=true→le a c=true) (hl: ∀a b,(le a b || le b a)=true) (l:List α):l.mergeSort le=mg le l:=
 Cn ha ((List.mergeSort_perm l le).trans (pg le l).symm) (List.pairwise_mergeSort ht hl l) (qc ht hl l)
end
def MC (x y:Int):Bool:=decide (x≤y)
def kH (l:List Int):List Int:=mg MC l
theorem xS (l:List Int): (l.mergeSort fun x y=>decide (x≤y))=kH l:=
 sQ (le:=MC) (fun a b h1 h2=>by simp[MC] at h1 h2;omega) (fun a b c h1 h2=>by simp[MC] at h1 h2 ⊢;omega) (fun a b=>by simp[MC];omega) l
def ph:List V→Option (List Int)
 | []=>some []
 | .int .i64 n::vs=> (ph vs).map (n:: ·)
 | _=>none
theorem vO: ∀ {vs:List V} {zs:List Int},ph vs=some zs→vs=zs.map (V.int .i64)
 | [],zs,h=>by simp[ph] at h;subst h;rfl
 | v::vs,zs,h=>by
   unfold ph at h
   split at h
   · rename_i heq;simp at heq
   · rename_i n vs' heq
     injection heq with e1 e2
     subst e1;subst e2
     rw[Option.map_eq_some_iff] at h
     obtain⟨ys,h1,rfl⟩:=h
     rw[vO h1];rfl
   · simp at h
theorem tN: ∀zs:List Int,ph (zs.map (V.int .i64))=some zs
 | []=>rfl
 | z::zs=>by simp only[List.map_cons,ph,tN zs,Option.map_some]
def xU:List V→Option fK
 | [.msl 1 es 0 len]=>if len=es.length then match ph es with
     | some zs=>if zs.length< 4611686018427387904 then some ⟨.tuple [],[(0,(kH zs).map (V.int .i64))]⟩ else none
     | none=>none
   else none
 | _=>none
end Go.AM
namespace Go.AM
def Na (tab:List (Nat×aZ)) (f:Nat):Option aZ:=(tab.find? (·.1==f)).map (·.2)
def Io (tab:List (Nat× (List V→Option fK))) (f:Nat) (as:List V):Option fK:=match tab.find? (·.1==f) with
 | some p=>p.2 as
 | none=>none
structure Jm where
 h: (Nat→List V→Option fK)→List V→Option fK
 mono: ∀ (C C':Nat→List V→Option fK),(∀g vs r,C g vs=some r→C' g vs=some r)→ ∀vs r,h C vs=some r→h C' vs=some r
def Bt (tab:List (Nat×Jm)) (f:Nat):Option ((Nat→List V→Option fK)→List V→Option fK):=(tab.find? (·.1==f)).map (·.2.h)
theorem zY (tab:List (Nat×Jm)): ∀f h,Bt tab f=some h→ ∀ (C C':Nat→List V→Option fK),(∀g vs r,C g vs=some r→C' g vs=some r)→ ∀vs r,h C vs=some r→h C' vs=some r:=by
 intro f h hf
 unfold Bt at hf
 rw[Option.map_eq_some_iff] at hf
 obtain⟨p,_,rfl⟩:=hf
 exact p.2.mono
def Ep (tab:List (Nat× (List V→Option (List (List V))))) (g:Nat) (caps:List V):Option (List (List V)):=match tab.find? (·.1==g) with
 | some p=>p.2 caps
 | none=>none
def MD (tab:List (Nat×aZ)) (ext:List (Nat× (List V→Option fK))) (hyb:List (Nat×Jm)) (iter:List (Nat× (List V→Option (List (List V))))):Env:={fn:=Na tab,ext:=Io ext,hyb:=Bt hyb,mono:=zY hyb,iter:=Ep iter}
abbrev od (d:Nat) (x:q9):bF:=⟨some d,x,none,[]⟩
abbrev ow (x:q9):bF:=⟨none,x,none,[]⟩
abbrev op (d:Nat) (x:q9) (p:List Nat):bF:=⟨some d,x,none,p⟩
abbrev rg (n:Nat):List Nat:=List.range n
abbrev ic (n:Int):aT:= .const (.int .i64 n)
abbrev fc (n:Nat):aT:= .const (.fn n [])
end Go.AM
namespace Go.AM
def vl:Nat→List V→List (List V)
 | i,p::q::rest=> [.int .i64 (i:Int),.agg (p.cells++q.cells)]::vl (i+1) (q::rest)
 | _,_=> []
def Bu:List V→Option (List (List V))
 | [.eptr (.lit 2 ps) 0]=>if ps.length< 4611686018427387904 then some (vl 0 ps) else none
 | [.eptr .nils 0]=>some []
 | _=>none
end Go.AM
namespace Go.AM
structure SS where
 T:List (Nat×V)
 O:List (Nat×Obj)
def lk {α:Type}:List (Nat×α)→Nat→Option α
 | [],_=>none
 | (k,v)::l,n=>bif Nat.beq k n then some v else lk l n
def SS.On (S:SS) (σ:St):Prop:=(∀t v,lk S.T t=some v→σ.T t=v)∧(∀r o,lk S.O r=some o→σ.O r=o)
def SS.put (S:SS) (d:Option Nat) (v:V):SS:=match d with
 | some d=> ⟨(d,v)::S.T,S.O⟩
 | none=>S
def SS.bJ (S:SS) (r:Nat) (o:Obj):SS:=⟨S.T,(r,o)::S.O⟩
theorem eD {α:Type} {p:Nat×α} {l:List (Nat×α)} {n:Nat}:lk (p::l) n=if p.1=n then some p.2 else lk l n:=by
 obtain⟨k,v⟩:=p
 simp only[lk]
 by_cases h:k=n
 · simp[h]
 · have:Nat.beq k n=false:=by
    cases hb:Nat.beq k n with
    | false=>rfl
    | true=>exact absurd (Nat.eq_of_beq_eq_true hb) h
   simp[h,this]
theorem SS.On.put {S:SS} {σ:St} (h:S.On σ) (d:Option Nat) (v:V): (S.put d v).On (σ.put d v):=by
 cases d with
 | none=>exact h
 | some d=>
   refine⟨fun t x hx=> ?_,fun r o ho=> ?_⟩
   · simp only[SS.put,eD] at hx
     show dm σ.T d v t=x
     unfold dm
     by_cases e:d=t
     · simp only[e,if_true,Option.some.injEq] at hx ⊢;exact hx
     · rw[if_neg e] at hx;rw[if_neg (Ne.symm e)];exact h.1 t x hx
   · exact h.2 r o ho
theorem SS.On.bJ {S:SS} {σ:St} (h:S.On σ) (r:Nat) (o:Obj): (S.bJ r o).On (σ.bJ r o):=by
 refine⟨fun t x hx=>h.1 t x hx,fun r' x hx=> ?_⟩
 simp only[SS.bJ,eD] at hx
 show dm σ.O r o r'=x
 unfold dm
 by_cases e:r=r'
 · simp only[e,if_true,Option.some.injEq] at hx ⊢;exact hx
 · rw[if_neg e] at hx;rw[if_neg (Ne.symm e)];exact h.2 r' x hx
inductive bB:Type 1 where
 | done (v:V)
 | fail
 | my (t:Nat) (k:V→bB)
 | bY (r:Nat) (k:Obj→bB)
 | bJ (r:Nat) (o:Obj) (k:bB)
 | mA (r:Nat) (k:Nat→bB)
 | call (f:Nat) (args:List V) (k:fK→bB)
 | bZ (p:Prop) (k:bB)
 | ex (α:Type) (p:α→Prop) (k:α→bB)
 | ite (b:Bool) (x y:bB)
 | alt (x y:bB)
 | all (k:Nat→bB)
 | Nb (a:Act)
def Ref:bB→Act→Prop
 | .done v,a=>a= .done v
 | .fail,_=>True
 | .my t k,a=> ∃k0,a= .my t k0∧ ∀v,Ref (k v) (k0 v)
 | .bY r k,a=> ∃k0,a= .bY r k0∧ ∀o,Ref (k o) (k0 o)
 | .bJ r o k,a=> ∃k0,a= .bJ r o k0∧Ref k k0
 | .mA r k,a=> ∃k0,a= .bY r k0∧ ∀o:Obj,Ref (k (o.gen+1)) (k0 o)
 | .call f as k,a=> ∃k0,a= .call f as k0∧ ∀res,Ref (k res) (k0 res)
 | .bZ p k,a=>p→Ref k a
 | .ex _ p k,a=> ∀x,p x→Ref (k x) a
 | .ite b x y,a=> (b=true→Ref x a)∧(b=false→Ref y a)
 | .alt x y,a=>Ref x a∧Ref y a
 | .all k,a=> ∃n,Ref (k n) a
 | .Nb b,a=>a=b
structure eY (p q:Prop):Prop where
 side:p
 rest:q
inductive aH {α:Type} (p q:α→Prop):Prop
 | mk (x:α) (h:p x) (k:q x)
structure Br (b:Bool) (p q:Prop):Prop where
 yes:b=true→p
 no:b=false→q
inductive ag (E:Env) (f:Nat) (as:List V) (q:fK→Prop):Prop
 | mk (res:fK) (h:Ev E f as res) (k:q res)
theorem Br.tt {p q:Prop} (h:p):Br true p q:=⟨fun _=>h,fun h=>by cases h⟩
theorem Br.ff {p q:Prop} (h:q):Br false p q:=⟨fun h=> (by cases h),fun _=>h⟩
theorem Br.dec {c:Prop} {_:Decidable c} {p q:Prop} (h:c→p) (k: ¬c→q):Br (decide c) p q:=⟨fun e=>h (of_decide_eq_true e),fun e=>k (of_decide_eq_false e)⟩
theorem Br.Sq {c:Prop} {_:Decidable c} {p q:Prop} (h: ¬c→p) (k:c→q):Br (!decide c) p q:=by
 refine⟨fun e=>h ?_,fun e=>k ?_⟩
 · simpa using e
 · simpa using e
theorem Br.t {c:Prop} {_:Decidable c} {p q:Prop} (h:c) (k:p):Br (decide c) p q:=⟨fun _=>k,fun e=>absurd h (of_decide_eq_false e)⟩
theorem Br.f {c:Prop} {_:Decidable c} {p q:Prop} (h: ¬c) (k:q):Br (decide c) p q:=⟨fun e=>absurd (of_decide_eq_true e) h,fun _=>k⟩
theorem Br.nt {c:Prop} {_:Decidable c} {p q:Prop} (h: ¬c) (k:p):Br (!decide c) p q:=⟨fun _=>k,fun e=>absurd ((by simpa using e:c)) h⟩
theorem Br.nf {c:Prop} {_:Decidable c} {p q:Prop} (h:c) (k:q):Br (!decide c) p q:=⟨fun e=>absurd h ((by simpa using e: ¬c)),fun _=>k⟩
theorem Br.bt {b:Bool} {p q:Prop} (h:b=true) (k:p):Br b p q:=⟨fun _=>k,fun e=> (by rw[h] at e;cases e)⟩
theorem Br.bf {b:Bool} {p q:Prop} (h:b=false) (k:q):Br b p q:=⟨fun e=> (by rw[h] at e;cases e),fun _=>k⟩
abbrev KK:=V→SS→List Loc→List Loc→Prop
structure Co (E:Env) (a:Act) (S:SS) (Q:KK):Prop where
 h: ∀σ,S.On σ→pQ E a σ fun v σ' r w=> ∃S',S'.On σ'∧Q v S' r w
def eM (E:Env):bB→SS→KK→Prop
 | .done v,S,Q=>Q v S [] []
 | .fail,_,_=>False
 | .my t k,S,Q=>match lk S.T t with
   | some v=>eM E (k v) S fun v S' r w=>Q v S' (.t t::r) w
   | none=>False
 | .bY t k,S,Q=>match lk S.O t with
   | some v=>eM E (k v) S fun v S' r w=>Q v S' (.o t::r) w
   | none=>False
 | .bJ t o k,S,Q=>match S with
   | ⟨T,O⟩=>eM E k ⟨T,(t,o)::O⟩ fun v S' r w=>Q v S' r (.o t::w)
 | .mA t k,S,Q=> ∀g:Nat,eM E (k g) S fun v S' r w=>Q v S' (.o t::r) w
 | .call f as k,S,Q=>ag E f as fun res=>eM E (k res) S Q
 | .bZ p k,S,Q=>eY p (eM E k S Q)
 | .ex _ p k,S,Q=>aH p fun x=>eM E (k x) S Q
 | .ite b x y,S,Q=>Br b (eM E x S Q) (eM E y S Q)
 | .alt x y,S,Q=>eM E x S Q∨eM E y S Q
 | .all k,S,Q=> ∀n,eM E (k n) S Q
 | .Nb a,S,Q=>Co E a S Q
theorem c9 {E:Env}: ∀ {a2:bB} {a:Act} {S:SS} {Q:KK} {σ:St},Ref a2 a→eM E a2 S Q→S.On σ→pQ E a σ fun v σ' r w=> ∃S',S'.On σ'∧Q v S' r w
 | .done v,a,S,Q,σ,hr,h,ho=>by
   simp only[Ref] at hr;subst hr
   rw[kG];exact⟨S,ho,h⟩
 | .fail,_,_,_,_,_,h,_=>by simp[eM] at h
 | .my t k,a,S,Q,σ,hr,h,ho=>by
   obtain⟨k0,rfl,hk⟩:=hr
   rw[pV]
   simp only[eM] at h
   split at h
   · rename_i v hv
     rw[ho.1 t v hv]
     exact c9 (hk v) h ho
   · exact h.elim
 | .bY t k,a,S,Q,σ,hr,h,ho=>by
   obtain⟨k0,rfl,hk⟩:=hr
   rw[mM]
   simp only[eM] at h
   split at h
   · rename_i v hv
     rw[ho.2 t v hv]
     exact c9 (hk v) h ho
   · exact h.elim
 | .bJ t o k,a,S,Q,σ,hr,h,ho=>by
   obtain⟨k0,rfl,hk⟩:=hr
   rw[pW]
   simp only[eM] at h
   obtain⟨T,O⟩:=S
   exact c9 hk h (ho.bJ t o)
 | .mA t k,a,S,Q,σ,hr,h,ho=>by
   obtain⟨k0,rfl,hk⟩:=hr
   rw[mM]
   simp only[eM] at h
   exact c9 (hk (σ.O t)) (h _) ho
 | .call f as k,a,S,Q,σ,hr,h,ho=>by
   obtain⟨k0,rfl,hk⟩:=hr
   rw[Eg]
   simp only[eM] at h
   obtain⟨res,he,h⟩:=h
   exact⟨res,he,c9 (hk res) h ho⟩
 | .bZ p k,a,S,Q,σ,hr,h,ho=>c9 (hr h.1) h.2 ho
 | .ex α p k,a,S,Q,σ,hr,h,ho=>by
   simp only[eM] at h
   obtain⟨x,hx,h⟩:=h
   exact c9 (hr x hx) h ho
 | .ite b x y,a,S,Q,σ,hr,h,ho=>by
   simp only[eM] at h
   simp only[Ref] at hr
   cases b with
   | true=>exact c9 (hr.1 rfl) (h.1 rfl) ho
   | false=>exact c9 (hr.2 rfl) (h.2 rfl) ho
 | .alt x y,a,S,Q,σ,hr,h,ho=>by
   simp only[eM] at h
   rcases h with h| h
   · exact c9 hr.1 h ho
   · exact c9 hr.2 h ho
 | .all k,a,S,Q,σ,hr,h,ho=>by
   obtain⟨n,hr⟩:=hr
   exact c9 hr (h n) ho
 | .Nb b,a,S,Q,σ,hr,h,ho=>by
   simp only[Ref] at hr
   subst hr
   exact h.h σ ho
end Go.AM
namespace Go.AM
def nth {α:Type}:List α→Nat→Option α
 | [],_=>none
 | x::_,0=>some x
 | _::l,n+1=>nth l n
theorem zZ {α:Type}: ∀ (l:List α) (n:Nat),nth l n=l[n]?
 | [],_=>by simp[nth]
 | _::_,0=>by simp[nth]
 | _::l,n+1=>by simp[nth,zZ l n]
def force {α:Type} {β:Type 1}:List α→(List α→β)→β
 | [],k=>k []
 | x::l,k=>force l fun l'=>k (x::l')
theorem force_eq {α:Type} {β:Type 1}: ∀ (l:List α) (k:List α→β),force l k=k l
 | [],_=>rfl
 | _::l,k=>by simp only[force,force_eq l]
def wT {α:Type}:List α→Nat→α→List α
 | [],_,_=> []
 | _::l,0,y=>y::l
 | x::l,n+1,y=>x::wT l n y
theorem te {α:Type}: ∀ (l:List α) (n:Nat) (y:α),wT l n y=l.set n y
 | [],_,_=>by simp[wT]
 | _::_,0,_=>by simp[wT]
 | _::l,n+1,y=>by simp[wT,te l n y]
def eU {α:Type}:List α→Nat→Bool
 | [],0=>true
 | _::l,n+1=>eU l n
 | _,_=>false
theorem jx {α:Type}: ∀ {l:List α} {n:Nat},eU l n=true→l.length=n
 | [],0,_=>rfl
 | _::l,n+1,h=>by simp only[eU] at h;simp[jx h]
 | [],_+1,h=>by simp[eU] at h
 | _::_,0,h=>by simp[eU] at h
def fY {α:Type}:List α→Nat→Bool
 | _,0=>true
 | _::l,n+1=>fY l n
 | [],_+1=>false
theorem kI {α:Type}: ∀ {l:List α} {n:Nat},fY l n=true→n≤l.length
 | _,0,_=>Nat.zero_le _
 | _::l,n+1,h=>by simp only[fY] at h;simpa using kI h
 | [],_+1,h=>by simp[fY] at h
def takeN {α:Type}:List α→Nat→List α
 | _,0=> []
 | x::l,n+1=>x::takeN l n
 | [],_+1=> []
theorem qd {α:Type}: ∀ (l:List α) (n:Nat),takeN l n=l.take n
 | _,0=>by simp[takeN]
 | _::l,n+1=>by simp[takeN,qd l n]
 | [],_+1=>by simp[takeN]
def oE {α:Type}:List α→Nat→List α
 | l,0=>l
 | _::l,n+1=>oE l n
 | [],_+1=> []
theorem qe {α:Type}: ∀ (l:List α) (n:Nat),oE l n=l.drop n
 | _,0=>by simp[oE]
 | _::l,n+1=>by simp[oE,qe l n]
 | [],_+1=>by simp[oE]
def jy (v:V) (sz:Nat):Bool:=match v with
 | .agg cs=>eU cs sz
 | v=>V.aN v &&Nat.beq sz 1
theorem jm {v:V} {sz:Nat} (h:jy v sz=true):aQ v sz=true:=by
 unfold jy at h
 split at h
 · simp[aQ,V.cells,V.dh,V.isAgg,jx h]
 · rename_i hn
   simp only[Bool.and_eq_true] at h
   have h1:sz=1:=Nat.eq_of_beq_eq_true h.2
   have h2:v.cells=[v]:=by cases v<;>simp_all[V.cells]
   simp[aQ,V.dh,h2,h1,h.1]
def tO (agg:Bool) (off sz:Nat) (e:V):Option V:=
 match agg with
 | true=>match e with
   | .agg cs=>bif Nat.beq off 0 &&eU cs sz then some e else bif fY cs (off+sz) then some (.agg (takeN (oE cs off) sz)) else none
   | _=>none
 | false=>match e with
   | .agg cs=>nth cs off
   | v=>bif V.aN v &&Nat.beq off 0 then some v else none
theorem jz {agg:Bool} {off sz:Nat} {e v:V} (h:tO agg off sz e=some v):AM.part agg off sz e=some v:=by
 cases agg with
 | true=>
   simp only[tO] at h
   cases e with
   | agg cs=>
     simp only at h
     cases hb: (Nat.beq off 0 &&eU cs sz) with
     | true=>
       simp only[hb,cond_true,Option.some.injEq] at h
       subst h
       simp only[Bool.and_eq_true] at hb
       have h1:off=0:=Nat.eq_of_beq_eq_true hb.1
       have h2:=jx hb.2
       simp[AM.part,h1,←h2]
     | false=>
       simp only[hb,cond_false] at h
       cases hc:fY cs (off+sz) with
       | true=>
         simp only[hc,cond_true,Option.some.injEq] at h
         subst h
         simp[AM.part,qd,qe,kI hc]
       | false=>simp[hc] at h
   | _=>simp at h
 | false=>
   simp only[tO] at h
   cases e with
   | agg cs=>simp only[zZ] at h;simpa [AM.part] using h
   | _=>
     simp only[V.aN,Bool.true_and,Bool.false_and,cond_false] at h
     first
     | (simp at h;done)
     | (cases hb:Nat.beq off 0 with
        | true=>simp only[hb,cond_true] at h;have h1:=Nat.eq_of_beq_eq_true hb;simp[AM.part,h1,V.aN];simpa using h
        | false=>simp[hb] at h)
def iE (agg:Bool) (off sz:Nat) (e v:V):Option V:=
 match agg with
 | true=>match e,v with
   | .agg cs,.agg vs=>bif eU vs sz then(bif Nat.beq off 0 &&eU cs sz then some v else bif fY cs (off+sz) then some (.agg (takeN cs off++(vs++oE cs (off+sz)))) else none) else none
   | _,_=>none
 | false=>bif V.aN v &&Nat.beq sz 1 then match e with
    | .agg cs=>bif fY cs (off+1) then some (.agg (wT cs off v)) else none
    | e=>bif V.aN e &&Nat.beq off 0 then some v else none
   else none
theorem se {agg:Bool} {off sz:Nat} {e v x:V} (h:iE agg off sz e v=some x):dj agg off sz e v=some x:=by
 cases agg with
 | true=>
   simp only[iE] at h
   split at h
   · rename_i cs vs
     cases h1:eU vs sz with
     | false=>simp[h1] at h
     | true=>
       have xV:=jx h1
       simp only[h1,cond_true] at h
       cases hb: (Nat.beq off 0 &&eU cs sz) with
       | true=>
         simp only[hb,cond_true,Option.some.injEq] at h
         subst h
         simp only[Bool.and_eq_true] at hb
         have h3:off=0:=Nat.eq_of_beq_eq_true hb.1
         have h2:=jx hb.2
         subst h3
         simp[dj,xV,h2]
       | false=>
         simp only[hb,cond_false] at h
         cases hc:fY cs (off+sz) with
         | true=>
           simp only[hc,cond_true,Option.some.injEq] at h
           subst h
           simp[dj,qd,qe,kI hc,xV]
         | false=>simp[hc] at h
   · simp at h
 | false=>
   simp only[iE] at h
   cases hb: (V.aN v &&Nat.beq sz 1) with
   | false=>simp[hb] at h
   | true=>
     simp only[hb,cond_true] at h
     simp only[Bool.and_eq_true] at hb
     have h1:sz=1:=Nat.eq_of_beq_eq_true hb.2
     split at h
     · rename_i cs
       cases hc:fY cs (off+1) with
       | false=>simp[hc] at h
       | true=>
         simp only[hc,cond_true,Option.some.injEq] at h
         subst h
         have:=kI hc
         simp[dj,hb.1,h1,te];omega
     · rename_i hn
       cases hc: (V.aN e &&Nat.beq off 0) with
       | false=>simp[hc] at h
       | true=>
         simp only[hc,cond_true,Option.some.injEq] at h
         subst h
         simp only[Bool.and_eq_true] at hc
         have h3:off=0:=Nat.eq_of_beq_eq_true hc.2
         cases e<;>simp_all[dj,V.aN]
def jA:Option V→bB
 | some v=> .done v
 | none=> .fail
def oF (agg:Bool) (off sz:Nat) (e:V):bB:=
 match agg with
 | true=>match e with
   | .agg cs=>bif Nat.beq off 0 &&eU cs sz then .done e else bif fY cs (off+sz) then force (takeN (oE cs off) sz) fun l=> .done (.agg l) else .fail
   | _=> .fail
 | false=>match e with
   | .agg cs=>jA (nth cs off)
   | v=>bif V.aN v &&Nat.beq off 0 then .done v else .fail
theorem mO {agg:Bool} {off sz:Nat} {e:V}:oF agg off sz e=jA (tO agg off sz e):=by
 unfold oF tO
 cases agg with
 | true=>
   cases e with
   | agg cs=>
     simp only
     cases hb: (Nat.beq off 0 &&eU cs sz) with
     | true=>rfl
     | false=>
       simp only[cond_false]
       cases hc:fY cs (off+sz) with
       | true=>simp only[cond_true,force_eq];rfl
       | false=>rfl
   | _=>rfl
 | false=>
   cases e with
   | agg cs=>rfl
   | _=>simp only;cases hb:Nat.beq off 0 <;>simp[V.aN,jA]
def Er (agg:Bool) (off sz:Nat) (e v:V) (k:V→bB):bB:=
 match agg with
 | true=>match e,v with
   | .agg cs,.agg vs=>bif eU vs sz then(bif Nat.beq off 0 &&eU cs sz then k v else bif fY cs (off+sz) then force (takeN cs off++(vs++oE cs (off+sz))) fun l=>k (.agg l) else .fail) else .fail
   | _,_=> .fail
 | false=>bif V.aN v &&Nat.beq sz 1 then match e with
    | .agg cs=>bif fY cs (off+1) then force (wT cs off v) fun l=>k (.agg l) else .fail
    | e=>bif V.aN e &&Nat.beq off 0 then k v else .fail
   else .fail
theorem GO {agg:Bool} {off sz:Nat} {e v:V} {k:V→bB}:Er agg off sz e v k=match iE agg off sz e v with
   | some x=>k x
   | none=> .fail:=by
 unfold Er iE
 cases agg with
 | true=>
   simp only
   split
   · rename_i cs vs
     cases eU vs sz with
     | false=>rfl
     | true=>
       simp only[cond_true]
       cases (Nat.beq off 0 &&eU cs sz) with
       | true=>rfl
       | false=>
         simp only[cond_false]
         cases fY cs (off+sz) with
         | true=>simp only[cond_true,force_eq]
         | false=>rfl
   · rfl
 | false=>
   simp only
   cases (V.aN v &&Nat.beq sz 1) with
   | false=>rfl
   | true=>
     simp only[cond_true]
     split
     · rename_i cs
       cases fY cs (off+1) with
       | true=>simp only[cond_true,force_eq]
       | false=>rfl
     · cases (V.aN e &&Nat.beq off 0) <;>rfl
def eX (x:aT) (k:V→bB):bB:=match x with
 | .tmp t=> .my t k
 | .const v=>k v
theorem Ref.ev {x:aT} {k:V→bB} {k0:V→Act} (h: ∀v,Ref (k v) (k0 v)):Ref (eX x k) (AM.ev x k0):=by
 cases x with
 | tmp t=>exact⟨k0,rfl,h⟩
 | const v=>exact h v
def Cp:List aT→(List V→bB)→bB
 | [],k=>k []
 | x::xs,k=>eX x fun v=>Cp xs fun vs=>k (v::vs)
theorem Ref.vN: ∀ {xs:List aT} {k:List V→bB} {k0:List V→Act},(∀v,Ref (k v) (k0 v))→Ref (Cp xs k) (AM.vN xs k0)
 | [],_,_,h=>h []
 | x::xs,_,_,h=>Ref.ev fun v=>Ref.vN fun vs=>h (v::vs)
def Cq:Option aT→(Option V→bB)→bB
 | none,k=>k none
 | some x,k=>eX x fun v=>k (some v)
theorem Ref.u9 {x:Option aT} {k:Option V→bB} {k0:Option V→Act} (h: ∀v,Ref (k v) (k0 v)):Ref (Cq x k) (AM.u9 x k0):=by
 cases x with
 | none=>exact h none
 | some x=>exact Ref.ev fun v=>h (some v)
theorem Ref.c8 {o o0:Option V} (h: ∀v,o=some v→o0=some v):Ref (jA o) (AM.c8 o0):=by
 cases o with
 | none=>trivial
 | some v=>rw[h v rfl];exact rfl
theorem Ref.ft {o:Option V}:Ref (jA o) (AM.c8 o):=Ref.c8 fun _ h=>h
theorem Ref.fail {a:Act}:Ref .fail a:=trivial
theorem Ref.done {v:V}:Ref (.done v) (.done v):=rfl
def tP (c:V) (k:V→bB):bB:=
 match c with
 | .sl r g off len=> .bY r fun ⟨cC,gl,dr,iM,iv⟩=>match iv with
   | some es=> .ex (List V) (fun ys=>aO es off len=ys) fun ys=> .bZ (cC=g∧dr=true∧off+len≤es.length∧V.aq ys=true) (.bJ r ⟨cC,gl,dr,true,iv⟩ (k (.lit gl ys)))
   | none=> .fail
 | .mp r g=> .bY r fun ⟨cC,gl,dr,iM,iv⟩=>match iv with
   | some es=> .ex (List V) (fun ys=>es=ys) fun ys=> .bZ (cC=g∧gl=0∧V.aq ys=true∧ys.all V.isTuple=true) (.bJ r ⟨cC,gl,dr,true,iv⟩ (k (.mlit ys)))
   | none=> .fail
 | .own .. | .msl .. | .mptr .. | .any| .it .. => .fail
 | c=>k c
theorem Ref.cm {c:V} {k:V→bB} {k0:V→Act} (h: ∀v,Ref (k v) (k0 v)):Ref (tP c k) (AM.cm c k0):=by
 cases c
 case sl r g off len=>
  refine⟨_,rfl,fun ⟨gen,sz,arr,fz,es⟩=> ?_⟩
  cases es with
  | none=>trivial
  | some es=>
    rintro ys rfl hc
    simp only[hc,and_self,if_true]
    refine⟨_,by simp[hc],h _⟩
 case mp r g=>
  refine⟨_,rfl,fun ⟨gen,sz,arr,fz,es⟩=> ?_⟩
  cases es with
  | none=>trivial
  | some es=>
    rintro ys rfl hc
    simp only[hc,and_self,if_true]
    refine⟨_,by simp[hc],h _⟩
 all_goals first| exact h _| trivial
def rv:List V→(List V→bB)→bB
 | [],k=>k []
 | c::cs,k=>tP c fun c'=>rv cs fun cY=>k (c'::cY)
theorem Ref.dP: ∀ {cs:List V} {k:List V→bB} {k0:List V→Act},(∀v,Ref (k v) (k0 v))→Ref (rv cs k) (AM.dP cs k0)
 | [],_,_,h=>h []
 | _::_,_,_,h=>Ref.cm fun v=>Ref.dP fun vs=>h (v::vs)
def xW (v:V) (k:V→bB):bB:=
 bif V.aE v then k v else
 match v with
 | .agg cs=>rv cs fun cY=>k (.agg cY)
 | v=>tP v k
theorem Ref.sa {v:V} {k:V→bB} {k0:V→Act} (h: ∀v,Ref (k v) (k0 v)):Ref (xW v k) (AM.sa v k0):=by
 unfold xW AM.sa
 cases hp:V.aE v with
 | true=>simpa using h v
 | false=>
   simp only[cond_false,Bool.false_eq_true,if_false]
   cases v
   case agg cs=>exact Ref.dP fun cY=>h _
   all_goals exact Ref.cm h
def Et (vs:List V) (k:List V→bB):bB:=
 .alt (.bZ (V.aq vs=true) (k vs)) (match vs with
  | [v]=>xW v fun v'=>k [v']
  | _=> .fail)
theorem Ref.gm {vs:List V} {k:List V→bB} {k0:List V→Act} (h: ∀v,Ref (k v) (k0 v)):Ref (Et vs k) (AM.gm vs k0):=by
 unfold Et
 refine⟨?_,?_⟩
 · intro hp
   simp only[AM.gm,hp,if_true]
   exact h _
 · split
   · rename_i v
     unfold AM.gm
     by_cases hp:V.aq [v]=true
     · rw[if_pos hp]
       have h1:V.aE v=true:=by simpa [V.aq] using hp
       unfold xW
       simp only[h1,cond_true];exact h _
     · rw[if_neg hp]
       simp only[AM.gm.go]
       exact Ref.sa fun v'=>h _
   · trivial
end Go.AM
namespace Go.AM
def wU (f:V→(V→List Nat→bB)→bB):List V→(List V→List Nat→bB)→bB
 | [],k=>k [] []
 | c::cs,k=>f c fun c' r=>wU f cs fun cY rs=>k (c'::cY) (r++rs)
theorem Ref.oG {f:V→(V→List Nat→bB)→bB} {f0:V→(V→List Nat→Act)→Act} (hf: ∀c k k0,(∀v rs,Ref (k v rs) (k0 v rs))→Ref (f c k) (f0 c k0)):
  ∀ {cs:List V} {k:List V→List Nat→bB} {k0:List V→List Nat→Act},(∀v rs,Ref (k v rs) (k0 v rs))→Ref (wU f cs k) (AM.oG f0 cs k0)
 | [],_,_,h=>h _ _
 | _::_,_,_,h=>hf _ _ _ fun v rs=>Ref.oG hf fun vs rs'=>h _ _
def gr:Nat→V→(V→List Nat→bB)→bB
 | 0,v,k=> .bZ (V.aE v=true) (k v [])
 | d+1,v,k=>bif V.aE v then k v [] else
   match v with
   | .agg cs=>wU (gr d) cs fun cY rs=>k (.agg cY) rs
   | .fn f cs=>wU (gr d) cs fun cY rs=>k (.fn f cY) rs
   | .iface t x=>gr d x fun x' rs=>k (.iface t x') rs
   | .sl r g off len=> .bY r fun ⟨cC,gl,dr,iM,iv⟩=>match iv with
     | some es=> .ex (List V) (fun ys=>aO es off len=ys) fun ys=> .bZ (cC=g∧dr=true∧off+len≤es.length∧V.aq ys=true) (k (.lit gl ys) [r])
     | none=> .fail
   | .ptr r g idx off=> .bY r fun ⟨cC,gl,dr,iM,iv⟩=>match iv with
     | some es=> .bZ (cC=g) (match es with
       | [e]=> (match idx with| 0=>gr d e fun e' rs=>k (.eptr e' off) (r::rs) | _+1=> .fail)
       | es=> .ex V (fun e=>es[idx]? =some e) fun e=>gr d e fun e' rs=>k (.eptr e' off) (r::rs))
     | none=> .fail
   | _=> .fail
theorem Ref.eZ: ∀ {d:Nat} {v:V} {k:V→List Nat→bB} {k0:V→List Nat→Act},(∀v rs,Ref (k v rs) (k0 v rs))→Ref (gr d v k) (AM.eZ d v k0)
 | 0,v,k,k0,h=>by
   intro hp
   simp only[AM.eZ,hp,if_true]
   exact h _ _
 | d+1,v,k,k0,h=>by
   unfold gr AM.eZ
   cases hp:V.aE v with
   | true=>simpa using h v []
   | false=>
     simp only[cond_false,Bool.false_eq_true,if_false]
     cases v
     case agg cs=>exact Ref.oG (f:=gr d) (f0:=AM.eZ d) (fun c k k0 h=>Ref.eZ h) fun cY rs=>h _ _
     case fn f cs=>exact Ref.oG (f:=gr d) (f0:=AM.eZ d) (fun c k k0 h=>Ref.eZ h) fun cY rs=>h _ _
     case iface t x=>exact Ref.eZ fun x' rs=>h _ _
     case sl r g off len=>
      refine⟨_,rfl,fun ⟨gen,sz,arr,fz,es⟩=> ?_⟩
      cases es with
      | none=>trivial
      | some es=>
        rintro ys rfl hc
        try simp only at hc
        simp only[hc,and_self,if_true,tf]
        exact h _ _
     case ptr r g idx off=>
      refine⟨_,rfl,fun ⟨gen,sz,arr,fz,es⟩=> ?_⟩
      cases es with
      | none=>trivial
      | some es=>
        intro hc
        try simp only at hc
        simp only[hc,if_true]
        split
        ·  rename_i e
           cases idx with
           | zero=>exact Ref.eZ fun e' rs=>h _ _
           | succ n=>trivial
        ·  intro e he
           simp only[he]
           exact Ref.eZ fun e' rs=>h _ _
     all_goals trivial
def eN (   r0:Nat):List V→List (Option Nat)→Nat→(List V→List Nat→List dZ→bB)→bB
 | [],_,_,k=>k [] [] []
 | v::vs,m::ms,i,k=>
   match m with
   | some sz=>match v with
     | .nils=> .bZ (0 <sz) (eN r0 vs ms (i+1) fun as rs ws=>k (.msl sz [] 0 0::as) rs (⟨i,r0+i,some sz⟩::ws))
     | .sl r g off len=> .bY r fun ⟨cC,gl,dr,iM,iv⟩=>match iv with
       | some es=> .bZ (cC=g∧iM=false∧gl=sz∧off+len≤es.length∧V.aq es=true)
          (eN r0 vs ms (i+1) fun as rs ws=>k (.msl sz es off len::as) rs (⟨i,r,none⟩::ws))
       | none=> .fail
     | .ptr r g idx off=> .bY r fun ⟨cC,gl,dr,iM,iv⟩=>match iv with
       | some es=> .bZ (cC=g∧iM=false∧gl=sz∧V.aq es=true)
          (eN r0 vs ms (i+1) fun as rs ws=>k (.mptr sz es idx off::as) rs (⟨i,r,none⟩::ws))
       | none=> .fail
     | _=> .fail
   | none=>gr 5 v fun v' rs=>eN r0 vs ms (i+1) fun as rs' ws=>k (v'::as) (rs++rs') ws
 | v::vs,[],i,k=>gr 5 v fun v' rs=>eN r0 vs [] (i+1) fun as rs' ws=>k (v'::as) (rs++rs') ws
theorem Ref.dx {r0:Nat}: ∀ {vs:List V} {ms:List (Option Nat)} {i:Nat} {k:List V→List Nat→List dZ→bB} {k0:List V→List Nat→List dZ→Act},
   (∀a b c,Ref (k a b c) (k0 a b c))→Ref (eN r0 vs ms i k) (AM.dx r0 vs ms i k0)
 | [],_,_,_,_,h=>h _ _ _
 | v::vs,[],i,k,k0,h=>Ref.eZ fun v' rs=>Ref.dx fun a b c=>h _ _ _
 | v::vs,none::ms,i,k,k0,h=>Ref.eZ fun v' rs=>Ref.dx fun a b c=>h _ _ _
 | v::vs,some sz::ms,i,k,k0,h=>by
   unfold eN AM.dx
   cases v
   case nils=>
    intro hc
    simp only[hc,if_true]
    exact Ref.dx fun a b c=>h _ _ _
   case sl r g off len=>
    refine⟨_,rfl,fun ⟨gen,sz,arr,fz,es⟩=> ?_⟩
    cases es with
    | none=>trivial
    | some es=>
      intro hc
      try simp only at hc
      simp only[hc,and_self,if_true]
      exact Ref.dx fun a b c=>h _ _ _
   case ptr r g idx off=>
    refine⟨_,rfl,fun ⟨gen,sz,arr,fz,es⟩=> ?_⟩
    cases es with
    | none=>trivial
    | some es=>
      intro hc
      try simp only at hc
      simp only[hc,and_self,if_true]
      exact Ref.dx fun a b c=>h _ _ _
   all_goals trivial
def lB:List Nat→bB→bB
 | [],k=>k
 | r::rs,k=> .bY r fun ⟨cC,gl,dr,iM,iv⟩=> .bJ r ⟨cC,gl,dr,true,iv⟩ (lB rs k)
theorem Ref.cA: ∀ {rs:List Nat} {k:bB} {k0:Act},Ref k k0→Ref (lB rs k) (AM.cA rs k0)
 | [],_,_,h=>h
 | _::_,_,_,h=> ⟨_,rfl,fun ⟨_,_,_,_,_⟩=> ⟨_,rfl,Ref.cA h⟩⟩
def gu:List dZ→List (Nat×List V)→(List (Nat×Nat×Nat)→bB)→bB
 | [],[],k=>k []
 | ⟨i,r,fresh⟩::ws,(Cr,es)::outs,k=> .bY r fun ⟨cC,gl,dr,iM,iv⟩=>match fresh with
   | none=> .bJ r ⟨cC+Cr,gl,dr,iM,some es⟩ (gu ws outs fun gs=>k ((i,r,cC+Cr)::gs))
   | some sz=> .bJ r {gen:=cC+1,sz,arr:=true,fz:=false,es:=some es} (gu ws outs fun gs=>k ((i,r,cC+1)::gs))
 | _,_,_=> .fail
theorem Ref.cW: ∀ {ws:List dZ} {outs:List (Nat×List V)} {k:List (Nat×Nat×Nat)→bB} {k0:List (Nat×Nat×Nat)→Act},(∀g,Ref (k g) (k0 g))→Ref (gu ws outs k) (AM.cW ws outs k0)
 | [],[],_,_,h=>h _
 | [],_::_,_,_,_=>trivial
 | _::_,[],_,_,_=>trivial
 | ⟨i,r,fresh⟩::ws,(Cr,es)::outs,k,k0,h=>by
   refine⟨_,rfl,fun ⟨gen,sz,arr,fz,es'⟩=> ?_⟩
   cases fresh with
   | none=>exact⟨_,rfl,Ref.cW fun g=>h _⟩
   | some sz=>exact⟨_,rfl,Ref.cW fun g=>h _⟩
theorem Ref.bif {b:Bool} {x:bB} {a:Act} (h:Ref x a):Ref (bif b then x else .fail) (if b=true then a else .fail):=by
 cases b with
 | true=>simpa using h
 | false=>trivial
def j5 (bL:Bool) (r:Nat) (gs:List (Nat×Nat×Nat)) (c:V) (k:V→bB):bB:=
 match c with
 | .own sz xs=> (match bL with
   | true=> .mA r fun g=> .bJ r {gen:=g,sz,arr:=true,fz:=false,es:=some xs} (k (.sl r g 0 xs.length))
   | false=>k (.lit sz xs))
 | .sl i _ off len=>match fq i gs with
   | some (r',g')=>k (.sl r' g' off len)
   | none=> .fail
 | c=>bif V.aE c then k c else .fail
theorem Ref.b0 {bL:Bool} {r:Nat} {gs:List (Nat×Nat×Nat)} {c:V} {k:V→bB} {k0:V→Act} (h: ∀v,Ref (k v) (k0 v)):Ref (j5 bL r gs c k) (AM.b0 bL r gs c k0):=by
 unfold j5 AM.b0
 cases c
 case own sz xs=>
  cases bL with
  | true=>exact⟨_,rfl,fun o=> ⟨_,rfl,h _⟩⟩
  | false=>exact h _
 case sl i g off len=>
  simp only
  cases fq i gs with
  | none=>trivial
  | some p=>exact h _
 all_goals exact Ref.bif (h _)
def lC (bL:Bool):Nat→List (Nat×Nat×Nat)→List V→(List V→bB)→bB
 | _,_,[],k=>k []
 | r,gs,c::cs,k=>j5 bL r gs c fun c'=>lC bL (r+1) gs cs fun cY=>k (c'::cY)
theorem Ref.cG {bL:Bool}: ∀ {cs:List V} {r:Nat} {gs:List (Nat×Nat×Nat)} {k:List V→bB} {k0:List V→Act},(∀v,Ref (k v) (k0 v))→Ref (lC bL r gs cs k) (AM.cG bL r gs cs k0)
 | [],_,_,_,_,h=>h _
 | _::_,_,_,_,_,h=>Ref.b0 fun c'=>Ref.cG fun cY=>h _
def qf (bL:Bool) (r:Nat) (gs:List (Nat×Nat×Nat)) (v:V) (k:V→bB):bB:=
 bif V.aE v then k v else
 match v with
 | .agg cs=>lC bL r gs cs fun cY=>k (.agg cY)
 | v=>j5 bL r gs v k
theorem Ref.eC {bL:Bool} {r:Nat} {gs:List (Nat×Nat×Nat)} {v:V} {k:V→bB} {k0:V→Act} (h: ∀v,Ref (k v) (k0 v)):Ref (qf bL r gs v k) (AM.eC bL r gs v k0):=by
 unfold qf AM.eC
 cases hp:V.aE v with
 | true=>simpa using h v
 | false=>
   simp only[cond_false,Bool.false_eq_true,if_false]
   cases v
   case agg cs=>exact Ref.cG fun cY=>h _
   all_goals exact Ref.b0 h
def ry (bL:Bool):Nat→List (Nat×Nat×Nat)→List V→(List V→bB)→bB
 | _,_,[],k=>k []
 | r,gs,v::vs,k=>qf bL r gs v fun v'=>ry bL (r+8) gs vs fun vs'=>k (v'::vs')
theorem Ref.dQ {bL:Bool}: ∀ {vs:List V} {r:Nat} {gs:List (Nat×Nat×Nat)} {k:List V→bB} {k0:List V→Act},(∀v,Ref (k v) (k0 v))→Ref (ry bL r gs vs k) (AM.dQ bL r gs vs k0)
 | [],_,_,_,_,h=>h _
 | _::_,_,_,_,_,h=>Ref.eC fun c'=>Ref.dQ fun cY=>h _
def da (bL:Bool) (r:Nat) (gs:List (Nat×Nat×Nat)) (v:V) (k:V→bB):bB:=
 bif V.aE v then k v else
 match v with
 | .tuple vs=>ry bL r gs vs fun vs'=>k (.tuple vs')
 | v=>qf bL r gs v k
theorem Ref.cz {bL:Bool} {r:Nat} {gs:List (Nat×Nat×Nat)} {v:V} {k:V→bB} {k0:V→Act} (h: ∀v,Ref (k v) (k0 v)):Ref (da bL r gs v k) (AM.cz bL r gs v k0):=by
 unfold da AM.cz
 cases hp:V.aE v with
 | true=>simpa using h v
 | false=>
   simp only[cond_false,Bool.false_eq_true,if_false]
   cases v
   case tuple cs=>exact Ref.dQ fun cY=>h _
   all_goals exact Ref.eC h
def gv (E:Env) (f:Nat):List (Option Nat):=match E.fn f with
 | some af=>af.tQ
 | none=> []
def lD (E:Env) (r:Nat) (bL:Bool) (f:Nat) (args:List V):bB:=
 eN ( r+8) args (gv E f) 0 fun as rs ws=>
  .bZ ((apart rs (ws.map (·.r)) &&distinct (ws.map (·.r)))=true) <| .call f as fun ⟨val,outs⟩=>
   match rs with
   | []=>gu ws outs fun gs=>da bL r gs val .done
   | rs=>bif V.isScalar val &&outs.all (fun o=>V.bC o.2) then gu ws outs fun gs=>da bL r gs val .done
     else lB rs (gu ws outs fun gs=>da bL r gs val .done)
theorem Ref.rz {E:Env} {r:Nat} {bL:Bool} {f:Nat} {args:List V}:Ref (lD E r bL f args) (AM.rz E r bL f args):=by
 unfold lD AM.rz
 refine Ref.dx fun as rs ws=> ?_
 intro hc
 simp only[hc,if_true]
 refine⟨_,rfl,fun ⟨val,outs⟩=> ?_⟩
 have Sr:Ref (gu ws outs fun gs=>da bL r gs val .done) (AM.cW ws outs fun gs=>AM.cz bL r gs val .done):=
   Ref.cW fun gs=>Ref.cz fun v=>rfl
 cases rs with
 | nil=>
   simp only[cA]
   split<;>exact Sr
 | cons a rs=>
   simp only
   cases hb: (V.isScalar val &&outs.all fun o=>V.bC o.2) with
   | true=>simp only[cond_true,if_true];exact Sr
   | false=>simp only[cond_false,Bool.false_eq_true,if_false];exact Ref.cA Sr
end Go.AM
namespace Go.AM
def rA (d:Nat) (o:Option V) (k:Nat→bB):bB:=match o with
 | none=>k d
 | some (.int _ n)=> .bZ (0≤n) (k n.toNat)
 | some _=> .fail
theorem Ref.Eu {d:Nat} {o:Option V} {k:Nat→bB} {a:Act} (h: ∀n,bM d o=some n→Ref (k n) a):Ref (rA d o k) a:=by
 unfold rA
 split
 · exact h _ rfl
 · rename_i K n
   intro h0
   exact h _ (by simp[bM,h0])
 · trivial
def tT:List (Nat×Nat×aT)→(List (Nat×Nat×V)→bB)→bB
 | [],k=>k []
 | (off,sz,x)::ps,k=>eX x fun v=>tT ps fun vs=>k ((off,sz,v)::vs)
theorem Ref.eT: ∀ {ps:List (Nat×Nat×aT)} {k:List (Nat×Nat×V)→bB} {k0:List (Nat×Nat×V)→Act},(∀v,Ref (k v) (k0 v))→Ref (tT ps k) (AM.eT ps k0)
 | [],_,_,h=>h _
 | (_,_,_)::_,_,_,h=>Ref.ev fun v=>Ref.eT fun vs=>h _
def jB:List V→List (Nat×Nat×V)→Option (List V)
 | cs,[]=>some cs
 | cs,(off,sz,v)::rest=>bif jy v sz &&fY cs (off+sz) then jB (match v with
    | .agg vs=>takeN cs off++(vs++oE cs (off+sz))
    | v=>wT cs off v) rest else none
theorem oH: ∀ {ps:List (Nat×Nat×V)} {cs out:List V},jB cs ps=some out→dE cs ps=some out
 | [],cs,out,h=>h
 | (off,sz,v)::rest,cs,out,h=>by
   simp only[jB] at h
   cases hb: (jy v sz &&fY cs (off+sz)) with
   | false=>simp[hb] at h
   | true=>
     simp only[hb,cond_true] at h
     simp only[Bool.and_eq_true] at hb
     have h1:=jm hb.1
     have h2:=kI hb.2
     simp only[aQ,Bool.and_eq_true,beq_iff_eq] at h1
     simp only[dE]
     rw[if_pos ⟨h1.1,h2,h1.2⟩]
     have ih:=oH h
     rw[←ih]
     congr 1
     split
     · rename_i vs
       simp[V.cells,qd,qe]
     · rename_i hn
       have h3:v.cells=[v]:=by cases v<;>simp_all[V.cells]
       have h4:sz=1:=by rw[h3] at h1;simpa using h1.1.symm
       subst h4
       rw[te,h3]
       simp[List.set_eq_take_append_cons_drop,show off<cs.length by omega]
def qg:List (Nat×aT)→(List (Nat×V)→bB)→bB
 | [],k=>k []
 | (i,x)::ps,k=>eX x fun v=>xW v fun v=>qg ps fun vs=>k ((i,v)::vs)
theorem Ref.eh: ∀ {ps:List (Nat×aT)} {k:List (Nat×V)→bB} {k0:List (Nat×V)→Act},(∀v,Ref (k v) (k0 v))→Ref (qg ps k) (AM.eh ps k0)
 | [],_,_,h=>h _
 | (_,_)::_,_,_,h=>Ref.ev fun v=>Ref.sa fun v'=>Ref.eh fun vs=>h _
def nN (sz:Nat):Nat→List (Nat×V)→Option (List V)
 | _,[]=>some []
 | i,(j,v)::rest=>bif Nat.beq i j &&jy v sz then(match nN sz (i+1) rest with| some vs=>some (v::vs) | none=>none) else none
def fR (sz:Nat):List V→List (Nat×V)→Option (List V)
 | es,[]=>some es
 | es,(i,v)::rest=>bif fY es (i+1) &&jy v sz then fR sz (wT es i v) rest else none
theorem kr {sz:Nat}: ∀ {ps:List (Nat×V)} {es out:List V},fR sz es ps=some out→cp sz es ps=some out
 | [],cs,out,h=>h
 | (i,v)::rest,es,out,h=>by
   simp only[fR] at h
   cases hb: (fY es (i+1) &&jy v sz) with
   | false=>simp[hb] at h
   | true=>
     simp only[hb,cond_true] at h
     simp only[Bool.and_eq_true] at hb
     have h1:=jm hb.2
     have h2:=kI hb.1
     simp only[cp]
     rw[if_pos ⟨by omega,h1⟩,←te]
     exact kr h
theorem pj {sz:Nat}: ∀ {ps:List (Nat×V)} {i:Nat} {vs pre es:List V},nN sz i ps=some vs→pre.length=i→es.length=ps.length→cp sz (pre++es) ps=some (pre++vs)
 | [],i,vs,pre,es,h,hp,he=>by
   simp only[nN,Option.some.injEq] at h
   subst h
   have:es=[]:=by simpa using he
   simp[cp,this]
 | (j,v)::rest,i,vs,pre,es,h,hp,he=>by
   simp only[nN] at h
   cases hb: (Nat.beq i j &&jy v sz) with
   | false=>simp[hb] at h
   | true=>
     simp only[hb,cond_true] at h
     simp only[Bool.and_eq_true] at hb
     have h1:=jm hb.2
     have h2:i=j:=Nat.eq_of_beq_eq_true hb.1
     subst h2
     split at h
     · rename_i vs' hv
       simp only[Option.some.injEq] at h
       subst h
       cases es with
       | nil=>simp at he
       | cons e es=>
         simp only[cp]
         rw[if_pos ⟨by simp;omega,h1⟩]
         have: (pre++e::es).set i v=(pre++[v])++es:=by
          simp[List.set_append,hp]
         rw[this,pj hv (by simp[hp]) (by simpa using he)]
         simp
     · simp at h
def mP (sz:Nat) (x:V) (k:List V→bB):bB:=
 match x with
 | .nils=>k []
 | .lit sz' xs=>bif Nat.beq sz' sz then k xs else .fail
 | .sl r g off len=> .bY r fun ⟨cC,gl,dr,iM,iv⟩=>match iv with
   | some es=> .ex (List V) (fun ys=>aO es off len=ys) fun ys=> .bZ (cC=g∧gl=sz∧off+len≤es.length) (k ys)
   | none=> .fail
 | .str s=>bif Nat.beq sz 1 then k (s.map fun b=> .int .u8 b.toNat) else .fail
 | _=> .fail
theorem Ref.content {sz:Nat} {x:V} {k:List V→bB} {k0:List V→Act} (h: ∀v,Ref (k v) (k0 v)):Ref (mP sz x k) (AM.content sz x k0):=by
 unfold mP AM.content
 cases x
 case nils=>exact h _
 case lit sz' xs=>
  cases hb:Nat.beq sz' sz with
  | true=>obtain rfl:=Nat.eq_of_beq_eq_true hb;simp only[if_true,hb,cond_true];exact h _
  | false=>simp only[hb,cond_false];trivial
 case str s=>
  cases hb:Nat.beq sz 1 with
  | true=>obtain rfl:=Nat.eq_of_beq_eq_true hb;simp only[if_true,hb,cond_true];exact h _
  | false=>simp only[hb,cond_false];trivial
 case sl r g off len=>
  refine⟨_,rfl,fun ⟨gen,sz,arr,fz,es⟩=> ?_⟩
  cases es with
  | none=>trivial
  | some es=>
    rintro ys rfl hc
    try simp only at hc
    simp only[hc,and_self,if_true]
    exact h _
 all_goals trivial
def wV ( r sz lim:Nat) (s:V) (ys:List V):bB:=
 .bZ (ys.all (aQ · sz)=true) <| bif Nat.ble 1 sz then
 match s with
 | .nils=>match ys with
   | [y]=> .bZ (1≤lim) (.mA r fun g=> .bJ r {gen:=g,sz,arr:=true,fz:=false,es:=some [y]} (.done (.sl r g 0 1)))
   | ys=> .ite ys.isEmpty (.done .nils) (.bZ (ys.length≤lim) (.mA r fun g=> .bJ r {gen:=g,sz,arr:=true,fz:=false,es:=some ys} (.done (.sl r g 0 ys.length))))
 | .lit sz' xs=> .bZ (ys=[]) (.done (.lit sz' xs))
 | .sl r' g off len=> .bY r' fun ⟨cC,gl,dr,iM,iv⟩=>match iv with
   | some es=> .bZ (cC=g∧dr=true∧iM=false∧gl=sz) <| .alt
      (.bZ (off=0∧es.length=len∧len+ys.length≤lim) (.all fun g'=> .bJ r' {gen:=g',sz,arr:=true,fz:=false,es:=some (es++ys)} (.done (.sl r' g' 0 (len+ys.length)))))
      (.bZ (off+len≤es.length∧len+ys.length≤lim) (.ite (decide (off+len+ys.length≤es.length))
        (.bJ r' ⟨cC,gl,dr,iM,some (overwrite es (off+len) ys)⟩ (.done (.sl r' g off (len+ys.length))))
        (.bJ r' ⟨g+1,gl,dr,iM,some (aO es off len++ys)⟩ (.done (.sl r' (g+1) 0 (len+ys.length))))))
   | none=> .fail
 | _=> .fail
 else .fail
theorem Ref.append {r sz lim:Nat} {s:V} {ys:List V}:Ref (wV r sz lim s ys) (tM r sz lim s ys):=by
 intro hy
 cases hb:Nat.ble 1 sz with
 | false=>simp only[cond_false];trivial
 | true=>
   have hs:0 <sz:=Nat.le_of_ble_eq_true hb
   have hg: (ys.all (aQ · sz) &&decide (0 <sz))=true:=by simp only[Bool.and_eq_true,decide_eq_true_eq];exact⟨hy,hs⟩
   simp only[cond_true,tM,hg,if_true]
   cases s
   case nils=>
    simp only
    split
    · rename_i y
      intro hl
      simp only[List.isEmpty_cons,Bool.false_eq_true,if_false,List.length_cons,List.length_nil,Nat.zero_add,hl,if_true]
      exact⟨_,rfl,fun o=> ⟨_,rfl,rfl⟩⟩
    · refine⟨fun he=> ?_,fun he=> ?_⟩
      · simp only[he,if_true];exact rfl
      ·  intro hl
         simp only[he,Bool.false_eq_true,if_false,hl,if_true]
         exact⟨_,rfl,fun o=> ⟨_,rfl,rfl⟩⟩
   case lit sz' xs=>
    intro he
    simp only[he,List.isEmpty_nil,if_true];exact rfl
   case sl r' g off len=>
    refine⟨_,rfl,fun ⟨gen,sz',arr,fz,es⟩=> ?_⟩
    cases es with
    | none=>trivial
    | some es=>
      intro hc
      obtain⟨rfl,rfl,rfl,rfl⟩:=hc
      refine⟨?_,?_⟩
      ·  rintro⟨rfl,rfl,hl⟩
         simp only[Nat.zero_add,Nat.le_refl,hl,and_self,if_true]
         by_cases hn:ys=[]
         · subst hn
           refine⟨gen,?_⟩
           simp only[List.append_nil,List.length_nil,Nat.add_zero,Nat.le_refl,if_true,overwrite,List.take_length,List.drop_length]
           exact⟨_,rfl,rfl⟩
         · have hp:0 <ys.length:=List.length_pos_iff.2 hn
           refine⟨gen+1,?_⟩
           rw[if_neg (by omega)]
           simp only[aO,List.drop_zero,List.take_length]
           exact⟨_,rfl,rfl⟩
      ·  rintro⟨h1,h2⟩
         simp only[h1,h2,and_self,if_true]
         refine⟨fun hd=> ?_,fun hd=> ?_⟩
         · simp only[decide_eq_true_eq] at hd
           rw[if_pos hd]
           exact⟨_,rfl,rfl⟩
         · simp only[decide_eq_false_iff_not] at hd
           rw[if_neg hd]
           exact⟨_,rfl,rfl⟩
   all_goals trivial
def Jn (op:BinOp) (x y:V):bB:=
 match x,y with
 | .int k a,.int k' b=>
   match op with
   | .shl=> .bZ (0≤b) (.done (.int k (k.wrap (a*2 ^ (min b.toNat k.bits)))))
   | .shr=> .bZ (0≤b) (.done (.int k (a.fdiv (2 ^ (min b.toNat k.bits)))))
   | .quo=> .bZ (k=k'∧b≠0) (.done (.int k (k.wrap (a.tdiv b))))
   | .rem=> .bZ (k=k'∧b≠0) (.done (.int k (a.tmod b)))
   | .and=> .bZ (k=k') (jA (j6 .and k a b))
   | .or=> .bZ (k=k') (jA (j6 .or k a b))
   | .xor=> .bZ (k=k') (jA (j6 .xor k a b))
   | .andNot=> .bZ (k=k') (jA (j6 .andNot k a b))
   | .add=>bif decide (k=k') then .done (.int k (k.wrap (a+b))) else .fail
   | .sub=>bif decide (k=k') then .done (.int k (k.wrap (a - b))) else .fail
   | .mul=>bif decide (k=k') then .done (.int k (k.wrap (a*b))) else .fail
   | .eql=>bif decide (k=k') then .done (.bool (decide (a=b))) else .fail
   | .neq=>bif decide (k=k') then .done (.bool (!decide (a=b))) else .fail
   | .lss=>bif decide (k=k') then .done (.bool (decide (a<b))) else .fail
   | .leq=>bif decide (k=k') then .done (.bool (decide (a≤b))) else .fail
   | .gtr=>bif decide (k=k') then .done (.bool (decide (b<a))) else .fail
   | .geq=>bif decide (k=k') then .done (.bool (decide (b≤a))) else .fail
 | .str a,.str b=>
   match op with
   | .add=> .bZ (a.length+b.length≤9223372036854775807) (.done (.str (a++b)))
   | .eql=> .done (.bool (decide (a=b)))
   | .neq=> .done (.bool (!decide (a=b)))
   | .lss=> .done (.bool (Op.bytesLess a b))
   | .leq=> .done (.bool (Op.bytesLess a b || decide (a=b)))
   | .gtr=> .done (.bool (!(Op.bytesLess a b || decide (a=b))))
   | .geq=> .done (.bool (!Op.bytesLess a b))
   | _=> .fail
 | _,_=> .fail
theorem Ref.Ew {b:Bool} {x:bB} {a:Act} (h:b=true→Ref x a):Ref (bif b then x else .fail) a:=by
 cases b with
 | true=>simpa using h rfl
 | false=>trivial
theorem Ref.bin {op:BinOp} {x y:V}:Ref (Jn op x y) (AM.c8 (cf op x y)):=by
 unfold Jn
 split
 · rename_i k a k' b
   split
   case h_1=>intro h;simp[cf,show ¬b< 0 by omega,AM.c8,Ref]
   case h_2=>intro h;simp[cf,show ¬b< 0 by omega,AM.c8,Ref]
   case h_3=>intro h;simp[cf,h.1,h.2,AM.c8,Ref]
   case h_4=>intro h;simp[cf,h.1,h.2,AM.c8,Ref]
   case h_5=>intro h;simp only[cf,h,if_true];exact Ref.ft
   case h_6=>intro h;simp only[cf,h,if_true];exact Ref.ft
   case h_7=>intro h;simp only[cf,h,if_true];exact Ref.ft
   case h_8=>intro h;simp only[cf,h,if_true];exact Ref.ft
   all_goals exact Ref.Ew fun h=>by simp only[decide_eq_true_eq] at h;simp[cf,h,AM.c8,Ref,dw,qb,bne]
 · rename_i a b
   split
   case h_1=>intro h;simp[cf,h,AM.c8,Ref]
   case h_8=>trivial
   all_goals simp[cf,AM.c8,Ref]
 · trivial
def Jo (neg:Bool) (a b:V):bB:=
 match a,b with
 | .nilp,.nilp=> .done (.bool (true !=neg))
 | .nilp,.eptr .. | .nilp,.epk .. | .eptr ..,.nilp| .epk ..,.nilp=> .done (.bool (false !=neg))
 | .epk i z _ 0,.epk i' z' _ 0=> .bZ (z=z'∧0 <z) (.done (.bool ((i==i') !=neg)))
 | _,_=> .fail
theorem Ref.D7 {neg:Bool} {a b:V}:Ref (Jo neg a b) (AM.c8 ((Bv a b).map fun c=> .bool (c !=neg))):=by
 unfold Jo
 split
 all_goals first| exact rfl| trivial| skip
 intro h
 obtain⟨rfl,hz⟩:=h
 simp only[Bv,hz,and_self,if_true,Option.map_some]
 exact rfl
def Jp (sz:Nat) (v i:V):bB:=
 match v,i with
 | .sl r g off len,.int _ n=> .bY r fun ⟨cC,gl,dr,iM,iv⟩=> .bZ (0≤n∧n<len∧gl=sz∧cC=g) (match off with
   | 0=> .done (.ptr r g n.toNat 0)
   | off=> .done (.ptr r g (off+n.toNat) 0))
 | .lit sz' xs,.int _ n=> .bZ (0≤n∧sz'=sz) (.ex V (fun e=>xs[n.toNat]? =some e) fun e=> .done (.eptr e 0))
 | .litk sz' xs,.int _ n=> .bZ (0≤n∧sz'=sz∧0 <sz) (.ex V (fun e=>xs[n.toNat]? =some e) fun e=> .done (.epk n.toNat sz e 0))
 | _,_=> .fail
theorem Ref.idx {sz:Nat} {v i:V}:Ref (Jp sz v i) (gV sz v i):=by
 unfold Jp
 split
 · refine⟨_,rfl,fun ⟨gen,sz',arr,fz,es⟩=> ?_⟩
   intro h
   try simp only at h
   simp only[h,and_self,if_true]
   split
   · simp[Ref]
   · exact rfl
 · intro h e he
   simp only[gV,h,and_self,if_true,he]
   exact rfl
 · intro h e he
   obtain⟨h1,rfl,h3⟩:=h
   simp only[gV,h1,h3,and_self,if_true,he]
   exact rfl
 · trivial
def Jq (sz:Nat) (v:V) (l h m:Option V):bB:=
 match m with
 | some mx=> (match v,h with
   | .sl r g off len,some hv=> .bY r fun ⟨cC,gl,dr,iM,iv⟩=>match iv with
     | some es=> .bZ (cC=g∧gl=sz) <| rA 0 l fun l=>rA len (some hv) fun h=>rA 0 (some mx) fun m=> .bZ (l≤h∧h≤m∧off+m≤es.length∧m≠l) (.done .any)
     | none=> .fail
   | _,_=> .fail)
 | none=>match v with
   | .sl r g off len=> .bY r fun ⟨cC,gl,dr,iM,iv⟩=>match iv with
     | some es=> .bZ (cC=g∧gl=sz) <| rA 0 l fun l=>rA len h fun h=> .bZ (l≤h∧off+h≤es.length) (.done (.sl r g (off+l) (h - l)))
     | none=> .fail
   | .lit sz' xs=> .bZ (sz'=sz) <| rA 0 l fun l=>rA xs.length h fun h=> .bZ (l≤h∧h≤xs.length) (.ex (List V) (fun ys=>aO xs l (h - l)=ys) fun ys=> .done (.lit sz ys))
   | .nils=>rA 0 l fun l=>rA 0 h fun h=> .bZ (l≤h∧h≤0) (.done .nils)
   | _=> .fail
theorem Ref.VY {sz:Nat} {v:V} {l h m:Option V}:Ref (Jq sz v l h m) (pf sz v l h m):=by
 unfold Jq
 split
 · split
   · rename_i mx _ _ r g off len hv
     refine⟨_,rfl,fun ⟨gen,sz',arr,fz,es⟩=> ?_⟩
     cases es with
     | none=>trivial
     | some es=>
       intro hc
       try simp only at hc
       simp only[hc,and_self,if_true]
       refine Ref.Eu fun l' hl=>Ref.Eu fun h' hh=>Ref.Eu fun m' hm=> ?_
       intro hk
       simp only[hl,hh,hm,hk,and_self,if_true,if_false]
       exact rfl
   · trivial
 · split
   · rename_i r g off len
     refine⟨_,rfl,fun ⟨gen,sz',arr,fz,es⟩=> ?_⟩
     cases es with
     | none=>trivial
     | some es=>
       intro hc
       try simp only at hc
       simp only[hc,and_self,if_true]
       refine Ref.Eu fun l' hl=>Ref.Eu fun h' hh=> ?_
       intro hk
       simp only[hl,hh,hk,and_self,if_true]
       exact rfl
   · rename_i sz' xs
     intro hc
     refine Ref.Eu fun l' hl=>Ref.Eu fun h' hh=> ?_
     rintro hk ys rfl
     simp only[pf,jw,hc,if_true,hl,hh,hk,and_self,AM.c8]
     exact rfl
   · refine Ref.Eu fun l' hl=>Ref.Eu fun h' hh=> ?_
     intro hk
     have h1:bM 0 none=some 0:=rfl
     simp only[pf,jw,hl,hh,h1,hk.1,hk.2,Option.isNone_none,AM.c8,Nat.le_refl,and_self,or_true,if_true]
     exact rfl
   · trivial
def rB (x:V) (lo hi:Option V):bB:=
 match x with
 | .str s=>rA 0 lo fun l=>rA s.length hi fun h=> .bZ (l≤h∧h≤s.length) (.done (.str ((s.drop l).take (h - l))))
 | _=> .fail
theorem Ref.jC {x:V} {l h:Option V}:Ref (rB x l h) (AM.c8 (eP x l h)):=by
 unfold rB
 split
 · refine Ref.Eu fun l' hl=>Ref.Eu fun h' hh=> ?_
   intro hk
   simp only[eP,hl,hh,hk,and_self,if_true,AM.c8]
   exact rfl
 · trivial
def wW (agg:Bool) (sz r g idx off:Nat) (v:V):bB:=
 .bY r fun ⟨cC,gl,dr,iM,iv⟩=>match iv with
  | some es=> .bZ (cC=g∧iM=false) <| (match dr with
    | true=> .ex V (fun e=>es[idx]? =some e) fun e=>Er agg off sz e v fun e'=> .bJ r ⟨cC,gl,dr,iM,some (es.set idx e')⟩ (.done (.tuple []))
    | false=>match es,idx with
      | [e],0=>Er agg off sz e v fun e'=> .bJ r ⟨cC,gl,dr,iM,some [e']⟩ (.done (.tuple []))
      | es,idx=> .ex V (fun e=>es[idx]? =some e) fun e=>Er agg off sz e v fun e'=> .bJ r ⟨cC,gl,dr,iM,some (es.set idx e')⟩ (.done (.tuple [])))
  | none=> .fail
theorem Ref.j4 {agg:Bool} {sz r g idx off:Nat} {v:V}:Ref (wW agg sz r g idx off v) (av.j4 agg sz r g idx off v):=by
 unfold wW av.j4
 simp only[GO]
 refine⟨_,rfl,fun ⟨gen,sz',arr,fz,es⟩=> ?_⟩
 cases es with
 | none=>trivial
 | some es=>
   intro hc
   try simp only at hc
   simp only[hc,and_self,if_true]
   have Cs:Ref (.ex V (fun e=>es[idx]? =some e) fun e=>match iE agg off sz e v with
       | some e'=> .bJ r ⟨gen,sz',arr,fz,some (es.set idx e')⟩ (.done (.tuple []))
       | none=> .fail) (match es[idx]? with
         | some e=>match dj agg off sz e v with
           | some e'=> .bJ r {gen:=gen,sz:=sz',arr:=arr,fz:=fz,es:=some (es.set idx e')} (.done (.tuple []))
           | none=> .fail
         | none=> .fail):=by
     intro e he
     simp only[he]
     cases hp:iE agg off sz e v with
     | none=>trivial
     | some e'=>simp only[se hp];exact⟨_,rfl,rfl⟩
   rw[hc.1,hc.2] at Cs
   cases arr with
   | true=>exact Cs
   | false=>
     simp only
     split
     · rename_i e
       simp only[List.getElem?_cons_zero]
       cases hp:iE agg off sz e v with
       | none=>trivial
       | some e'=>simp only[se hp];exact⟨_,rfl,rfl⟩
     · exact Cs
def rC:List (Nat×aT)→(List (Nat×V)→bB)→bB
 | [],k=>k []
 | (i,x)::ps,k=>eX x fun v=>rC ps fun vs=>k ((i,v)::vs)
theorem Ref.iF: ∀ {ps:List (Nat×aT)} {k:List (Nat×V)→bB} {k0:List (Nat×V)→Act},(∀v,Ref (k v) (k0 v))→Ref (rC ps k) (AM.iF ps k0)
 | [],_,_,h=>h _
 | (i,x)::ps,_,_,h=>Ref.ev fun v=>Ref.iF fun vs=>h _
def z6 (r sz:Nat) (zero:V) (n:Nat) (ps:List (Nat×V)):bB:=
 bif jy zero sz &&Nat.ble 1 sz &&Nat.ble (n*sz) 16777216 then(match (bif eU ps n then nN sz 0 ps else none) with
  | some es=> .mA r fun g=> .bJ r {gen:=g,sz,arr:=true,fz:=false,es:=some es} (.done (.sl r g 0 n))
  | none=>match fR sz (List.replicate n zero) ps with
    | some es=> .mA r fun g=> .bJ r {gen:=g,sz,arr:=true,fz:=false,es:=some es} (.done (.sl r g 0 n))
    | none=> .fail) else .fail
def RV (E:Env):q9→bB
 | .move x=>eX x .done
 | .pick c a b=>eX c fun| .bool c=> .ite c (eX a .done) (eX b .done) | _=> .fail
 | .new r sz x=>eX x fun v=>bif jy v sz &&Nat.ble 1 sz then .mA r fun g=> .bJ r {gen:=g,sz,arr:=false,fz:=false,es:=some [v]} (.done (.ptr r g 0 0)) else .fail
 | .build cells parts=>tT parts fun ps=>match jB cells ps with
   | some cs=>force cs fun cs=> .done (.agg cs)
   | none=> .fail
 | .buildSlice r sz zero n parts=>qg parts fun ps=>bif jy zero sz &&Nat.ble 1 sz &&Nat.ble (n*sz) 16777216 then(match (bif eU ps n then nN sz 0 ps else none) with
   | some es=> .mA r fun g=> .bJ r {gen:=g,sz,arr:=true,fz:=false,es:=some es} (.done (.sl r g 0 n))
   | none=>match fR sz (List.replicate n zero) ps with
     | some es=> .mA r fun g=> .bJ r {gen:=g,sz,arr:=true,fz:=false,es:=some es} (.done (.sl r g 0 n))
     | none=> .fail) else .fail
 | .cU r sz=>bif Nat.ble 1 sz then .mA r fun g=> .bJ r {gen:=g,sz,arr:=true,fz:=false,es:=some []} (.done (.sl r g 0 0)) else .fail
 | .nO r x=>eX x fun
   | .sl r1 g off len=>bif Nat.beq r1 r then .done (.sl r1 g off len) else .bY r1 fun ⟨cC,gl,dr,iM,iv⟩=> .bZ (cC=g) (.mA r fun g'=>
       .bJ r ⟨g',gl,dr,iM,iv⟩ (.bJ r1 ⟨cC+1,gl,dr,iM,none⟩ (.done (.sl r g' off len))))
   | v=> .done v
 | .makeSlice r sz bytes zero len cap=>eX len fun l=>eX cap fun c=>match l,c with
   | .int _ n,.int _ m=> .bZ (0≤n∧n≤m∧m*bytes≤140737488355328∧aQ zero sz=true∧0 <sz∧m≤9223372036854775807)
       (.mA r fun g=> .bJ r {gen:=g,sz,arr:=true,fz:=false,es:=some (List.replicate m.toNat zero)} (.done (.sl r g 0 n.toNat)))
   | _,_=> .fail
 | .load agg sz x=>eX x fun
   | .ptr r g idx off=> .bY r fun ⟨cC,gl,dr,iM,iv⟩=>match iv with
     | some es=> .bZ (cC=g) (match dr with
       | true=> .ex V (fun e=>es[idx]? =some e) fun e=>oF agg off sz e
       | false=>match es,idx with
         | [e],0=>oF agg off sz e
         | es,idx=> .ex V (fun e=>es[idx]? =some e) fun e=>oF agg off sz e)
     | none=> .fail
   | .eptr e off=>oF agg off sz e
   | .epk _ _ e off=>oF agg off sz e
   | _=> .fail
 | .store agg sz x v=>eX x fun
   | .ptr r g idx off=> .bY r fun ⟨cC,gl,dr,iM,iv⟩=>match dr with
     | true=>eX v fun v=>xW v fun v=>wW agg sz r g idx off v
     | false=>eX v fun v=>wW agg sz r g idx off v
   | _=> .fail
 | .nilCheck x=>eX x fun
   | .ptr r g idx off=> .done (.ptr r g idx off)
   | .eptr e off=> .done (.eptr e off)
   | .epk i z e off=> .done (.epk i z e off)
   | .fn f caps=> .done (.fn f caps)
   | _=> .fail
 | .bin op x y=>eX x fun a=>eX y fun b=>Jn op a b
 | .ME neg x y=>eX x fun a=>eX y fun b=>match a,b with
   | .bool a,.bool b=> .done (.bool ((a==b) !=neg))
   | _,_=> .fail
 | .Gz neg ks x y=>eX x fun a=>eX y fun b=>match a,b with
   | .agg as,.agg bs=>match fQ ks as bs with
       | some b=> .done (.bool (b !=neg))
       | none=> .fail
   | _,_=> .fail
 | .un op x=>eX x fun a=>jA (zW op a)
 | .j7 k x=>eX x fun| .int _ n=> .done (.int k (k.wrap n)) | _=> .fail
 | .rD x=>eX x fun| .int _ n=> .done (.float (FloatKind.f64.nearest n)) | _=> .fail
 | .rE k x=>eX x fun
   | .float b=> .ex Int (fun n=> (FloatKind.f64.decode b).toInt .zero=some n∧k.min≤n∧n≤k.max) fun n=> .done (.int k n)
   | _=> .fail
 | .qh x=>eX x fun| .str s=> .done (.str s) | _=> .fail
 | .qi t x=>eX x fun v=> .done (.iface t v)
 | .assert t ok zero x=>eX x fun
   | .nili=>match ok with| true=> .done (.tuple [zero,.bool false]) | false=> .fail
   | .iface t' v=>bif Nat.beq t' t then(match ok with| true=> .done (.tuple [v,.bool true]) | false=> .done v) else(match ok with| true=> .done (.tuple [zero,.bool false]) | false=> .fail)
   | _=> .fail
 | .lE f caps=>Cp caps fun vs=> .done (.fn f vs)
 | .jC x lo hi=>eX x fun v=>Cq lo fun l=>Cq hi fun h=>rB v l h
 | .slice sz x lo hi mx=>eX x fun v=>Cq lo fun l=>Cq hi fun h=>Cq mx fun m=>Jq sz v l h m
 | .fieldAddr off x=>eX x fun
   | .ptr r g idx o=> .done (.ptr r g idx (o+off))
   | .eptr e o=> .done (.eptr e (o+off))
   | .epk i z e o=> .done (.epk i z e (o+off))
   | _=> .fail
 | .field agg off sz x=>eX x fun
   | .agg cs=>oF agg off sz (.agg cs)
   | _=> .fail
 | .indexAddr sz x i=>eX x fun v=>eX i fun i=>Jp sz v i
 | .bE n sz x i=>eX x fun v=>eX i fun i=>match v,i with
   | .ptr r g idx off,.int _ j=> .bZ (0≤j∧j<n) (.done (.ptr r g idx (off+j.toNat*sz)))
   | .eptr e off,.int _ j=> .bZ (0≤j∧j<n) (.done (.eptr e (off+j.toNat*sz)))
   | _,_=> .fail
 | .mQ x i=>eX x fun v=>eX i fun i=>match v,i with
   | .str s,.int _ n=> .bZ (0≤n) (.ex UInt8 (fun b=>s[n.toNat]? =some b) fun b=> .done (.int .u8 b.toNat))
   | _,_=> .fail
 | .mR agg n sz x i=>eX x fun v=>eX i fun i=>match i with
   | .int _ j=> .bZ (0≤j∧j<n∧v.isAgg=true) (.ex V (fun e=>part agg (j.toNat*sz) sz v=some e) fun e=> .done e)
   | _=> .fail
 | .len x=>eX x fun v=>jA (oz v)
 | .tU x=>eX x fun| .str s=> .done (.int .i64 s.length) | _=> .fail
 | .min xs=>Cp xs fun vs=>jA (gQ min2 vs)
 | .max xs=>Cp xs fun vs=>jA (gQ max2 vs)
 | .append r sz lim s x=>eX s fun s=>eX x fun x=>mP sz x fun ys=>Et ys fun ys=>wV r sz lim s ys
 | .copy sz d s=>eX d fun d=>eX s fun s=>mP sz s fun ys=>match d with
   | .nils=> .done (.int .i64 0)
   | .sl r g off len=> .bY r fun ⟨cC,gl,dr,iM,iv⟩=>match iv with
     | some es=>
       .bZ (cC=g∧dr=true∧iM=false∧gl=sz∧off+len≤es.length∧(ys.take len).all (aQ · sz)=true)
         (.bJ r ⟨cC,gl,dr,iM,some (overwrite es off (ys.take len))⟩ (.done (.int .i64 (ys.take len).length)))
     | none=> .fail
   | _=> .fail
 | .clear sz zero x=>eX x fun
   | .nils=> .done (.tuple [])
   | .sl r g off len=> .bY r fun ⟨cC,gl,dr,iM,iv⟩=>match iv with
     | some es=> .bZ (cC=g∧dr=true∧iM=false∧gl=sz∧off+len≤es.length∧aQ zero sz=true)
         (.bJ r ⟨cC,gl,dr,iM,some (overwrite es off (List.replicate len zero))⟩ (.done (.tuple [])))
     | none=> .fail
   | _=> .fail
 | .extract x i=>eX x fun
   | .tuple vs=>jA (nth vs i)
   | _=> .fail
 | .call r bL f args=>eX f fun
   | .fn f caps=>Cp args fun as=>lD E r bL f (as++caps)
   | _=> .fail
 | .fZ i r sz zero n parts=>eX (.tmp i) fun
   | .int _ j=>qg parts fun ps=>z6 (r+16*j.toNat) sz zero n ps
   | _=> .fail
 | .ga r sz zero n parts=>rC parts fun ps=>z6 r sz zero n ps
 | .lF r sz lim s x=>eX s fun s=>eX x fun x=>mP sz x fun ys=>wV r sz lim s ys
 | .deep x=>eX x fun v=> .Nb (lG v)
 | .oI ks agg sz x=>eX x fun
   | .ptr r g idx off=> .bY r fun ⟨cC,gl,dr,iM,iv⟩=>match iv with
     | some es=> .bZ (cC=g) (match es,idx with
       | [e],0=>jA ((tO agg off sz e).map (zM ks))
       | _,_=> .fail)
     | none=> .fail
   | _=> .fail
 | .mkMap r=> .mA r fun g=> .bJ r {gen:=g,sz:=0,arr:=false,fz:=false,es:=some []} (.done (.mp r g))
 | .pk q x k v=>eX x fun
   | .mp r g=>eX k fun k=>eX v fun v=>xW v fun v=> .bY r fun ⟨cC,gl,dr,iM,iv⟩=>match iv with
     | some es=> .bZ (cC=g∧gl=0∧iM=false∧isKey q k=true∧v.dh=true) (.ex (List V) (fun es'=>jD k v es=some es') fun es'=>
         .bJ r ⟨cC,gl,dr,iM,some es'⟩ (.done (.tuple [])))
     | none=> .fail
   | _=> .fail
 | .iN q ok zero x k=>eX x fun x=>eX k fun k=> .bZ (isKey q k=true) (match x with
   | .mp r g=> .bY r fun ⟨cC,gl,dr,iM,iv⟩=>match iv with
     | some es=> .bZ (cC=g∧gl=0) (.ex V (fun v=>eE ok zero es k= .done v) fun v=> .done v)
     | none=> .fail
   | .mlit es=> .ex V (fun v=>eE ok zero es k= .done v) fun v=> .done v
   | _=> .fail)
 | .wX x=>eX x fun v=> (match v with
   | .fn .. =>gr 5 v fun v' rs=>lB rs (.done v')
   | _=>xW v .done)
 | .qj r x=>eX x fun
   | .str s=> .mA r fun g=> .bJ r {gen:=g,sz:=0,arr:=false,fz:=false,es:=some [.str s,.int .i64 0]} (.done (.it r g))
   | _=> .fail
 | .qk x=>  eX x fun
   | .it r g=> .bY r fun ⟨cC,gl,dr,iM,iv⟩=>match iv with
     | some [.str s,.int .i64 p]=> .bZ (cC=g∧gl=0∧iM=false) (.ite (decide (p.toNat<s.length))
         (.bJ r ⟨cC,gl,dr,iM,some [.str s,.int .i64 ((p.toNat+(Utf8.decode ⟨s.toArray⟩ p.toNat).2:Nat):Int)]⟩
           (.done (.tuple [.bool true,.int .i64 (p.toNat:Int),.int .i32 ((Utf8.decode ⟨s.toArray⟩ p.toNat).1:Int)])))
         (.done (.tuple [.bool false])))
     | _=> .fail
   | _=> .fail
 | .Nc neg ks x y=>eX x fun a=>eX y fun b=>match a,b with
   | .iface t p,.iface t' q=>bif Nat.beq t t' then(match pn t ks with
       | some k=> (match vM k p q with
         | some b=> .done (.bool (b !=neg))
         | none=> .fail)
       | none=> .fail) else .fail
   | .nili,.iface _ _=> .done (.bool neg)
   | .iface _ _,.nili=> .done (.bool neg)
   | _,_=> .fail
 | .D7 neg x y=>eX x fun a=>eX y fun b=>Jo neg a b
 | .mapIter r x=>eX x fun
   | .mlit es=> .mA r fun g=> .bJ r {gen:=g,sz:=0,arr:=false,fz:=false,es:=some [.mlit es]} (.done (.it r g))
   | _=> .fail
 | .bad=> .fail
theorem Ref.Ip {r sz:Nat} {zero:V} {n:Nat} {ps:List (Nat×V)}:Ref (z6 r sz zero n ps) (match cp sz (List.replicate n zero) ps with
   | some es=>if aQ zero sz &&decide (0 <sz∧n*sz≤16777216) then AM.Act.bY r fun o=>AM.Act.bJ r {gen:=o.gen+1,sz,arr:=true,fz:=false,es:=some es} (.done (.sl r (o.gen+1) 0 n)) else AM.Act.fail
   | none=>AM.Act.fail):=by
 refine Ref.Ew fun h=> ?_
 simp only[Bool.and_eq_true] at h
 have h1:=jm h.1.1
 have h2:0 <sz:=Nat.le_of_ble_eq_true h.1.2
 have h3:n*sz≤16777216:=Nat.le_of_ble_eq_true h.2
 split
 · rename_i es he
   have hl:eU ps n=true:=by
     cases hb:eU ps n with
     | true=>rfl
     | false=>simp[hb] at he
   simp only[hl,cond_true] at he
   have h4:=pj (pre:=[]) (es:=List.replicate n zero) he rfl (by simp[jx hl])
   simp only[List.nil_append] at h4
   simp only[h4,h1,h2,h3,and_self,decide_true,Bool.and_self,if_true]
   exact⟨_,rfl,fun o=> ⟨_,rfl,rfl⟩⟩
 · cases hf:fR sz (List.replicate n zero) ps with
   | none=>trivial
   | some es=>
     simp only[kr hf,h1,h2,h3,and_self,decide_true,Bool.and_self,if_true]
     exact⟨_,rfl,fun o=> ⟨_,rfl,rfl⟩⟩
theorem Ref.op {E:Env} {o:q9}:Ref (RV E o) (av E o):=by
 cases o with
 | fZ i r sz zero n parts=>
   refine⟨_,rfl,fun v=> ?_⟩
   cases v<;>first| trivial| skip
   exact Ref.eh fun ps=>Ref.Ip
 | ga r sz zero n parts=>exact Ref.iF fun ps=>Ref.Ip
 | mkMap r=>exact⟨_,rfl,fun o=> ⟨_,rfl,rfl⟩⟩
 | qj r x=>
   refine Ref.ev fun v=> ?_
   cases v<;>first| trivial| exact⟨_,rfl,fun o=> ⟨_,rfl,rfl⟩⟩
 | qk x=>
   refine Ref.ev fun v=> ?_
   cases v<;>first| trivial| skip
   refine⟨_,rfl,fun ⟨gen,sz,arr,fz,es⟩=> ?_⟩
   simp only
   split
   · intro hc
     obtain⟨rfl,rfl,rfl⟩:=hc
     simp only[and_self,if_true]
     refine⟨fun he=> ?_,fun he=> ?_⟩
     · rw[if_pos (by simpa using he)];exact⟨_,rfl,rfl⟩
     · rw[if_neg (by simpa using he)];exact rfl
   · trivial
 | wX x=>
   refine Ref.ev fun v=> ?_
   cases v with
   | fn f caps=>exact Ref.eZ fun v' rs=>Ref.cA rfl
   | _=>exact Ref.sa fun v=>rfl
 | pk q x k v=>
   refine Ref.ev fun x=> ?_
   cases x<;>first| trivial| skip
   refine Ref.ev fun k=>Ref.ev fun v=>Ref.sa fun v=> ⟨_,rfl,fun ⟨gen,sz,arr,fz,es⟩=> ?_⟩
   cases es with
   | none=>trivial
   | some es=>
     rintro hc es' he
     simp only[hc,he,and_self,if_true]
     exact⟨_,by simp[hc],rfl⟩
 | iN q ok zero x k=>
   refine Ref.ev fun x=>Ref.ev fun k=> ?_
   intro hk
   simp only[hk,if_true]
   cases x<;>first| trivial| skip
   case mp r g=>
     refine⟨_,rfl,fun ⟨gen,sz,arr,fz,es⟩=> ?_⟩
     cases es with
     | none=>trivial
     | some es=>
       rintro hc v hv
       show (if gen=g∧sz=0 then eE ok zero es k else Act.fail)= .done v
       rw[if_pos hc]
       exact hv
   case mlit es=>
     rintro v hv
     exact hv
 | lF r sz lim s x=>exact Ref.ev fun s=>Ref.ev fun x=>Ref.content fun ys=>Ref.append
 | deep=>exact Ref.ev fun v=>rfl
 | oI ks agg sz x=>
   refine Ref.ev fun v=> ?_
   cases v<;>first| trivial| skip
   case ptr r g idx off=>
     refine⟨_,rfl,fun ⟨gen,sz',arr,fz,es⟩=> ?_⟩
     cases es with
     | none=>trivial
     | some es=>
       intro hc
       try simp only at hc
       simp only[hc,if_true]
       split
       · simp only[List.getElem?_cons_zero]
         exact Ref.c8 fun v hv=>by
          obtain⟨v0,h0,rfl⟩:=Option.map_eq_some_iff.1 hv
          rw[jz h0];rfl
       · trivial
 | move x=>exact Ref.ev fun v=>rfl
 | pick c a b=>
   refine Ref.ev fun v=> ?_
   cases v
   case bool c=>cases c with
     | true=>exact⟨fun _=>Ref.ev (fun v=>rfl),fun h=> (by cases h)⟩
     | false=>exact⟨fun h=> (by cases h),fun _=>Ref.ev (fun v=>rfl)⟩
   all_goals trivial
 | new r sz x=>
   refine Ref.ev fun v=>Ref.Ew fun h=> ?_
   simp only[Bool.and_eq_true] at h
   have h1:=jm h.1
   have h2:0 <sz:=Nat.le_of_ble_eq_true h.2
   simp only[h1,h2,decide_true,Bool.and_self,if_true]
   exact⟨_,rfl,fun o=> ⟨_,rfl,rfl⟩⟩
 | build cells parts=>
   refine Ref.eT fun ps=> ?_
   cases hf:jB cells ps with
   | none=>trivial
   | some cs=>simp only[oH hf,force_eq];exact rfl
 | buildSlice r sz zero n parts=>
   refine Ref.eh fun ps=>Ref.Ew fun h=> ?_
   simp only[Bool.and_eq_true] at h
   have h1:=jm h.1.1
   have h2:0 <sz:=Nat.le_of_ble_eq_true h.1.2
   have h3:n*sz≤16777216:=Nat.le_of_ble_eq_true h.2
   split
   · rename_i es he
     have hl:eU ps n=true:=by
       cases hb:eU ps n with
       | true=>rfl
       | false=>simp[hb] at he
     simp only[hl,cond_true] at he
     have h4:=pj (pre:=[]) (es:=List.replicate n zero) he rfl (by simp[jx hl])
     simp only[List.nil_append] at h4
     simp only[h4,h1,h2,h3,and_self,decide_true,Bool.and_self,if_true]
     exact⟨_,rfl,fun o=> ⟨_,rfl,rfl⟩⟩
   · cases hf:fR sz (List.replicate n zero) ps with
     | none=>trivial
     | some es=>
       simp only[kr hf,h1,h2,h3,and_self,decide_true,Bool.and_self,if_true]
       exact⟨_,rfl,fun o=> ⟨_,rfl,rfl⟩⟩
 | cU r sz=>
   refine Ref.Ew fun h=> ?_
   have h2:0 <sz:=Nat.le_of_ble_eq_true h
   simp only[av,h2,if_true]
   exact⟨_,rfl,fun o=> ⟨_,rfl,rfl⟩⟩
 | nO r x=>
   refine Ref.ev fun v=> ?_
   cases v
   case sl r1 g off len=>
     cases hb:Nat.beq r1 r with
     | true=>
       obtain rfl:=Nat.eq_of_beq_eq_true hb
       simp only[if_true,hb,cond_true]
       exact rfl
     | false=>
       have:r1≠r:=Nat.ne_of_beq_eq_false hb
       simp only[hb,cond_false,this,if_false]
       refine⟨_,rfl,fun ⟨gen,sz',arr,fz,es⟩=> ?_⟩
       intro hg
       have MF:gen=g:=hg
       subst MF
       simp only[if_true]
       exact⟨_,rfl,fun o=> ⟨_,rfl,_,rfl,rfl⟩⟩
   all_goals exact rfl
 | makeSlice r sz bytes zero len cap=>
   refine Ref.ev fun l=>Ref.ev fun c=> ?_
   cases l<;>first| trivial| skip
   cases c<;>first| trivial| skip
   intro h
   simp only[h,and_self,if_true]
   exact⟨_,rfl,fun o=> ⟨_,rfl,rfl⟩⟩
 | load agg sz x=>
   refine Ref.ev fun v=> ?_
   cases v<;>first| trivial| skip
   case ptr r g idx off=>
     refine⟨_,rfl,fun ⟨gen,sz',arr,fz,es⟩=> ?_⟩
     cases es with
     | none=>trivial
     | some es=>
       intro hc
       try simp only at hc
       simp only[hc,if_true]
       have Cs:Ref (.ex V (fun e=>es[idx]? =some e) fun e=>oF agg off sz e) (match es[idx]? with
         | some e=>AM.c8 (part agg off sz e)
         | none=> .fail):=by
         intro e he
         simp only[he]
         rw[mO];exact Ref.c8 fun v hv=>jz hv
       cases arr with
       | true=>exact Cs
       | false=>
         simp only
         split
         · rw[mO];exact Ref.c8 fun v hv=>jz hv
         · exact Cs
   case eptr e off=>simp only[mO];exact Ref.c8 fun v hv=>jz hv
   case epk i z e off=>simp only[mO];exact Ref.c8 fun v hv=>jz hv
 | store agg sz x v=>
   refine Ref.ev fun v=> ?_
   cases v<;>first| trivial| skip
   refine⟨_,rfl,fun ⟨gen,sz',arr,fz,es⟩=> ?_⟩
   cases arr with
   | true=>exact Ref.ev fun v=>Ref.sa fun v=>Ref.j4
   | false=>exact Ref.ev fun v=>Ref.j4
 | nilCheck x=>exact Ref.ev fun v=>by cases v<;>first| trivial| exact rfl
 | bin op x y=>exact Ref.ev fun a=>Ref.ev fun b=>Ref.bin
 | ME neg x y=>
   refine Ref.ev fun a=>Ref.ev fun b=> ?_
   cases a<;>first| trivial| skip
   cases b<;>first| trivial| exact rfl
 | Gz neg ks x y=>
   refine Ref.ev fun a=>Ref.ev fun b=> ?_
   cases a<;>first| trivial| skip
   cases b<;>first| trivial| skip
   rename_i as bs
   simp only
   cases fQ ks as bs with
   | none=>trivial
   | some b=>exact rfl
 | un op x=>exact Ref.ev fun a=>Ref.ft
 | j7 k x=>exact Ref.ev fun v=>by cases v<;>first| trivial| exact rfl
 | rD x=>exact Ref.ev fun v=>by cases v<;>first| trivial| exact rfl
 | rE k x=>
   refine Ref.ev fun v=> ?_
   cases v<;>first| trivial| skip
   rintro n ⟨h1,h2,h3⟩
   simp only[h1,h2,h3,and_self,if_true]
   exact rfl
 | qh x=>exact Ref.ev fun v=>by cases v<;>first| trivial| exact rfl
 | qi t x=>exact Ref.ev fun v=>rfl
 | assert t ok zero x=>
   refine Ref.ev fun v=> ?_
   cases v<;>first| trivial| skip
   case nili=>cases ok<;>first| trivial| exact rfl
   case iface t' v=>
     cases hb:Nat.beq t' t with
     | true=>
       have:=Nat.eq_of_beq_eq_true hb
       cases ok<;>simp[hb,this,Ref]
     | false=>
       have:t'≠t:=Nat.ne_of_beq_eq_false hb
       cases ok<;>simp[hb,this,Ref]
 | lE f caps=>exact Ref.vN fun v=>rfl
 | jC x lo hi=>exact Ref.ev fun v=>Ref.u9 fun l=>Ref.u9 fun h=>Ref.jC
 | slice sz x lo hi mx=>
   rw[nM]
   exact Ref.ev fun v=>Ref.u9 fun l=>Ref.u9 fun h=>Ref.u9 fun m=>Ref.VY
 | fieldAddr off x=>exact Ref.ev fun v=>by cases v<;>first| trivial| exact rfl
 | field agg off sz x=>
   refine Ref.ev fun v=> ?_
   cases v<;>first| trivial| skip
   rename_i cs
   show Ref (oF agg off sz (V.agg cs)) (AM.c8 (part agg off sz (V.agg cs)))
   rw[mO]
   exact Ref.c8 fun v hv=>jz hv
 | indexAddr sz x i=>
   rw[iu]
   exact Ref.ev fun v=>Ref.ev fun i=>Ref.idx
 | bE n sz x i=>
   refine Ref.ev fun v=>Ref.ev fun i=> ?_
   cases v<;>first| trivial| skip
   all_goals
     cases i<;>first| trivial| skip
     intro h
     simp only[h,and_self,if_true]
     exact rfl
 | mQ x i=>
   refine Ref.ev fun v=>Ref.ev fun i=> ?_
   cases v<;>first| trivial| skip
   cases i<;>first| trivial| skip
   intro h b hb
   simp only[h,if_true,hb]
   exact rfl
 | mR agg n sz x i=>
   refine Ref.ev fun v=>Ref.ev fun i=> ?_
   cases i<;>first| trivial| skip
   intro h e he
   simp only[h,and_self,if_true,he]
   exact rfl
 | len x=>exact Ref.ev fun v=>Ref.ft
 | tU x=>exact Ref.ev fun v=>by cases v<;>first| trivial| exact rfl
 | min xs=>exact Ref.vN fun vs=>Ref.ft
 | max xs=>exact Ref.vN fun vs=>Ref.ft
 | append r sz lim s x=>
   rw[lz]
   exact Ref.ev fun s=>Ref.ev fun x=>Ref.content fun ys=>Ref.gm fun ys=>Ref.append
 | copy sz d s=>
   refine Ref.ev fun d=>Ref.ev fun s=>Ref.content fun ys=> ?_
   cases d<;>first| trivial| exact rfl| skip
   refine⟨_,rfl,fun ⟨gen,sz',arr,fz,es⟩=> ?_⟩
   cases es with
   | none=>trivial
   | some es=>
     intro hc
     try simp only at hc
     simp only[hc,and_self,if_true]
     exact⟨_,by simp[hc],rfl⟩
 | clear sz zero x=>
   refine Ref.ev fun d=> ?_
   cases d<;>first| trivial| exact rfl| skip
   refine⟨_,rfl,fun ⟨gen,sz',arr,fz,es⟩=> ?_⟩
   cases es with
   | none=>trivial
   | some es=>
     intro hc
     try simp only at hc
     simp only[hc,and_self,if_true]
     exact⟨_,by simp[hc],rfl⟩
 | extract x i=>
   refine Ref.ev fun v=> ?_
   cases v<;>first| trivial| skip
   simp only[zZ]
   exact Ref.ft
 | call r bL f args=>
   refine Ref.ev fun v=> ?_
   cases v<;>first| trivial| skip
   rename_i f caps
   exact Ref.vN fun as=>Ref.rz
 | Nc neg ks x y=>
   refine Ref.ev fun a=>Ref.ev fun b=> ?_
   cases a<;>first| trivial| skip
   case nili=>cases b<;>first| trivial| exact rfl
   case iface t p=>
     cases b<;>first| trivial| exact rfl| skip
     rename_i t' q
     cases hb:Nat.beq t t' with
     | true=>
       have:=Nat.eq_of_beq_eq_true hb
       subst this
       simp only[hb,cond_true,if_true]
       cases pn t ks with
       | none=>trivial
       | some k=>
         simp only
         cases vM k p q with
         | none=>trivial
         | some b=>exact rfl
     | false=>simp only[hb,cond_false];trivial
 | D7 neg x y=>exact Ref.ev fun a=>Ref.ev fun b=>Ref.D7
 | mapIter r x=>
   refine Ref.ev fun v=> ?_
   cases v<;>first| trivial| exact⟨_,rfl,fun o=> ⟨_,rfl,rfl⟩⟩
 | bad=>trivial
end Go.AM
namespace Go.AM
def Bw (E:Env) (o:bF):bB:=match o.guard with
 | none=>RV E o.op
 | some (t,want)=> .my t fun
   | .bool b=> (match want with
     | true=> .ite b (RV E o.op) (.done dG)
     | false=> .ite b (.done dG) (RV E o.op))
   | .tuple []=> .done dG
   | _=> .fail
theorem Ref.oper {E:Env} {o:bF}:Ref (Bw E o) (dJ E o):=by
 unfold Bw dJ
 cases o.guard with
 | none=>exact Ref.op
 | some p=>
   obtain⟨t,want⟩:=p
   refine⟨_,rfl,fun v=> ?_⟩
   cases v<;>first| trivial| skip
   case bool b=>cases b<;>cases want<;>simp[Ref,Ref.op]
   case tuple vs=>cases vs with
    | nil=>exact rfl
    | cons=>trivial
def Ct (E:Env):List bF→SS→(SS→Prop)→Prop
 | [],S,Q=>Q S
 | o::os,S,Q=>eM E (Bw E o) S fun v S' _ _=>match S' with
   | ⟨T,O⟩=>match o.dst with
     | some d=>Ct E os ⟨(d,v)::T,O⟩ Q
     | none=>Ct E os ⟨T,O⟩ Q
def Cu (E:Env):List bF→SS→(List eB→SS→Prop)→Prop
 | [],S,Q=>Q [] S
 | o::os,S,Q=>eM E (Bw E o) S fun v S' r w=>match S' with
   | ⟨T,O⟩=>match o.dst with
     | some d=>Cu E os ⟨(d,v)::T,O⟩ fun fs Jr=>Q (⟨r,.t d::w⟩::fs) Jr
     | none=>Cu E os ⟨T,O⟩ fun fs Jr=>Q (⟨r,w⟩::fs) Jr
section
variable {E:Env}
theorem z7 {a:Act} {σ:St} {Q:V→St→Prop} (h:pQ E a σ fun v σ' _ _=>Q v σ'):rf E a σ Q:=by
 obtain⟨n,v,σ',h1,h2⟩:=h
 exact⟨n,v,σ',h1,h2⟩
theorem po: ∀ {os:List bF} {S:SS} {Q:SS→Prop} {σ:St},Ct E os S Q→S.On σ→GM E os σ fun σ'=> ∃S',S'.On σ'∧Q S'
 | [],S,Q,σ,h,ho=>by rw[s7];exact⟨S,ho,h⟩
 | o::os,S,Q,σ,h,ho=>by
   rw[pT]
   refine z7 (mN (c9 Ref.oper h ho) ?_)
   rintro v σ' r w ⟨⟨T,O⟩,vm,h'⟩
   have hp:=vm.put o.dst v
   cases hd:o.dst with
   | none=>simp only[hd] at h' hp ⊢;exact po h' hp
   | some d=>simp only[hd] at h' hp ⊢;exact po h' hp
theorem pq: ∀ {os:List bF} {S:SS} {Q:List eB→SS→Prop} {σ:St},Cu E os S Q→S.On σ→M9 E os σ fun fs σ'=> ∃S',S'.On σ'∧Q fs S'
 | [],S,Q,σ,h,ho=>by rw[td];exact⟨S,ho,h⟩
 | o::os,S,Q,σ,h,ho=>by
   rw[p9]
   refine mN (c9 Ref.oper h ho) ?_
   rintro v σ' r w ⟨⟨T,O⟩,vm,h'⟩
   have hp:=vm.put o.dst v
   cases hd:o.dst with
   | none=>simp only[hd] at h' hp ⊢;exact pq h' hp
   | some d=>simp only[hd] at h' hp ⊢;exact pq h' hp
def thenS (Q:aW→SS→Prop) (k:SS→Prop):aW→SS→Prop
 | .normal,S=>k S
 | .exit id,S=>Q (.exit id) S
 | .ret,S=>Q .ret S
def Ex (id:Nat) (Q:aW→SS→Prop):aW→SS→Prop
 | .exit jV,S=>bif Nat.beq jV id then Q .normal S else Q (.exit jV) S
 | .normal,S=>Q .normal S
 | .ret,S=>Q .ret S
structure ba (E:Env) (b:az) (S:SS) (Q:aW→SS→Prop):Prop where
 h: ∀σ,S.On σ→mz E (.loop b) σ fun e σ'=> ∃S',S'.On σ'∧Q e S'
structure Ey (E:Env) (it nx ne id:Nat) (kT kO:List Nat) (h0 b l:az) (S:SS) (Q:aW→SS→Prop):Prop where
 h: ∀σ,S.On σ→mz E (.keys it nx ne id kT kO h0 b l) σ fun e σ'=> ∃S',S'.On σ'∧Q e S'
structure z8 (E:Env) (x:aT) (ps:List Nat) (a b:az) (S:SS) (Q:aW→SS→Prop):Prop where
 h: ∀σ,S.On σ→mz E (.mJ x ps a b) σ fun e σ'=> ∃S',S'.On σ'∧Q e S'
def gY (E:Env):az→SS→(aW→SS→Prop)→Prop
 | .skip,S,Q=>Q .normal S
 | .region ops,S,Q=>Ct E ops S (Q .normal)
 | .drawn ops,S,Q=>Cu E ops S fun fs S'=>eY (Im (ops.map (·.pre)) [] [] fs=true) (Q .normal S')
 | .seq a b,S,Q=>gY E a S (thenS Q fun S'=>gY E b S' Q)
 | .cond c a b,S,Q=>match c with
   | .tmp t=> (match lk S.T t with
     | some (.bool c)=>Br c (gY E a S Q) (gY E b S Q)
     | _=>False)
   | .const (.bool c)=>Br c (gY E a S Q) (gY E b S Q)
   | _=>False
 | .block id b,S,Q=>gY E b S (Ex id Q)
 | .loop b,S,Q=>ba E b S Q
 | .exit id,S,Q=>Q (.exit id) S
 | .ret,S,Q=>Q .ret S
 | .scope b,S,Q=>gY E b S Q
 | .bad,_,_=>False
 | .mJ x ps a b,S,Q=>z8 E x ps a b S Q
 | .keys it nx ne id kT kO h0 b l,S,Q=>Ey E it nx ne id kT kO h0 b l S Q
theorem cV: ∀ {c:az} {S:SS} {Q:aW→SS→Prop} {σ:St},gY E c S Q→S.On σ→mz E c σ fun e σ'=> ∃S',S'.On σ'∧Q e S'
 | .skip,S,Q,σ,h,ho=>by rw[pX];exact⟨S,ho,h⟩
 | .region ops,S,Q,σ,h,ho=>by rw[lq];exact po h ho
 | .drawn ops,S,Q,σ,h,ho=>by
   refine wR ?_
   have h1:=pq h ho
   refine qa h1 ?_
   rintro fs σ' ⟨S',h2,h3,h4⟩
   exact⟨h3,S',h2,h4⟩
 | .seq a b,S,Q,σ,h,ho=>by
   rw[s9]
   refine iD (cV (c:=a) h ho) ?_
   rintro e σ' ⟨S',h1,h2⟩
   cases e with
   | normal=>exact cV (c:=b) h2 h1
   | exit id=>exact⟨S',h1,h2⟩
   | ret=>exact⟨S',h1,h2⟩
 | .cond c a b,S,Q,σ,h,ho=>by
   rw[pZ]
   simp only[gY] at h
   cases c with
   | tmp t=>
     simp only at h
     split at h
     · rename_i c hc
       rw[j3,ho.1 t _ hc]
       cases c with
       | true=>exact cV (c:=a) (h.1 rfl) ho
       | false=>exact cV (c:=b) (h.2 rfl) ho
     · exact h.elim
   | const v=>
     cases v
     case bool c=>
       rw[iq]
       cases c with
       | true=>exact cV (c:=a) (h.1 rfl) ho
       | false=>exact cV (c:=b) (h.2 rfl) ho
     all_goals exact h.elim
 | .block id b,S,Q,σ,h,ho=>by
   rw[nL]
   refine iD (cV (c:=b) h ho) ?_
   rintro e σ' ⟨S',h1,h2⟩
   cases e with
   | normal=>exact⟨S',h1,h2⟩
   | ret=>exact⟨S',h1,h2⟩
   | exit jV=>
     simp only[Ex] at h2
     simp only[tJ]
     cases hb:Nat.beq jV id with
     | true=>
       have:=Nat.eq_of_beq_eq_true hb
       simp only[hb,cond_true] at h2
       rw[if_pos this];exact⟨S',h1,h2⟩
     | false=>
       have:jV≠id:=Nat.ne_of_beq_eq_false hb
       simp only[hb,cond_false] at h2
       rw[if_neg this];exact⟨S',h1,h2⟩
 | .loop b,S,Q,σ,h,ho=>h.h σ ho
 | .exit id,S,Q,σ,h,ho=>by rw[pY];exact⟨S,ho,h⟩
 | .ret,S,Q,σ,h,ho=>by rw[s8];exact⟨S,ho,h⟩
 | .scope b,S,Q,σ,h,ho=>by rw[nK];exact cV (c:=b) h ho
 | .mJ ..,S,Q,σ,h,ho=>h.h σ ho
 | .keys ..,S,Q,σ,h,ho=>h.h σ ho
 | .bad,_,_,_,h,_=>h.elim
theorem Ss {x:V}:aO [x] 0 1=[x]:=rfl
def sR {α:Type}:List (Nat×α)→List (Nat×α)→Prop
 | [],_=>True
 | p::l,m=> (match lk m p.1 with
   | some x=>x=p.2
   | none=>False)∧sR l m
def SS.Sub (S S':SS):Prop:=sR S.T S'.T∧sR S.O S'.O
theorem sR.lk {α:Type}: ∀ {l m:List (Nat×α)},sR l m→ ∀ {n x},lk l n=some x→lk m n=some x
 | [],_,_,n,x,h=>by simp[AM.lk] at h
 | p::l,m,h,n,x,hx=>by
   rw[eD] at hx
   by_cases e:p.1=n
   · rw[if_pos e] at hx
     injection hx with hx
     have:=h.1
     subst e
     split at this
     · rename_i y hy;rw[hy,this,hx]
     · exact this.elim
   · rw[if_neg e] at hx
     exact sR.lk h.2 hx
theorem SS.Sub.on {S S':SS} (h:S.Sub S') {σ:St} (ho:S'.On σ):S.On σ:=
 ⟨fun t v hv=>ho.1 t v (h.1.lk hv),fun r o hr=>ho.2 r o (h.2.lk hr)⟩
def Nd (Q:aW→SS→Prop) (I:Nat→SS→Prop) (k:Nat):aW→SS→Prop
 | .normal,S=> ∃j,j<k∧ ∃S',S'.Sub S∧I j S'
 | .exit id,S=>Q (.exit id) S
 | .ret,S=>Q .ret S
theorem ba.of {b:az} {Q:aW→SS→Prop} (I:Nat→SS→Prop) (hI: ∀k S,I k S→gY E b S (Nd Q I k)) {k:Nat} {S0 S:SS} (hs:S0.Sub S) (h0:I k S0):ba E b S Q:=by
 refine⟨fun σ ho=> ?_⟩
 refine xQ (fun k σ=> ∃S,S.On σ∧I k S) ?_ k σ ⟨S0,hs.on ho,h0⟩
 rintro k σ ⟨S,hS,hi⟩
 refine iD (cV (hI k S hi) hS) ?_
 rintro e σ' ⟨S',h1,h2⟩
 cases e with
 | normal=>
   obtain⟨j,hj,Jr,h3,h4⟩:=h2
   exact⟨j,hj,Jr,h3.on h1,h4⟩
 | exit id=>exact⟨S',h1,h2⟩
 | ret=>exact⟨S',h1,h2⟩
theorem dq: ∀ {a:bB} {S:SS} {Q Q':KK},eM E a S Q→(∀v S' r w,Q v S' r w→Q' v S' r w)→eM E a S Q'
 | .done v,_,_,_,h,k=>k _ _ _ _ h
 | .fail,_,_,_,h,_=>h
 | .my t f,S,Q,Q',h,k=>by
   simp only[eM] at h ⊢
   split
   · rename_i v hv
     rw[hv] at h
     exact dq h fun _ _ _ _ h=>k _ _ _ _ h
   · rename_i hv;rw[hv] at h;exact h
 | .bY t f,S,Q,Q',h,k=>by
   simp only[eM] at h ⊢
   split
   · rename_i v hv
     rw[hv] at h
     exact dq h fun _ _ _ _ h=>k _ _ _ _ h
   · rename_i hv;rw[hv] at h;exact h
 | .bJ t o f,⟨T,O⟩,Q,Q',h,k=>by
   simp only[eM] at h ⊢
   exact dq h fun _ _ _ _ h=>k _ _ _ _ h
 | .mA t f,S,Q,Q',h,k=>by
   simp only[eM] at h ⊢
   exact fun g=>dq (h g) fun _ _ _ _ h=>k _ _ _ _ h
 | .call f as c,S,Q,Q',h,k=>by
   simp only[eM] at h ⊢
   obtain⟨res,h1,h2⟩:=h
   exact⟨res,h1,dq h2 k⟩
 | .bZ p c,S,Q,Q',h,k=> ⟨h.1,dq h.2 k⟩
 | .ex α p c,S,Q,Q',h,k=>by
   obtain⟨x,h1,h2⟩:=h
   exact⟨x,h1,dq h2 k⟩
 | .ite b x y,S,Q,Q',h,k=> ⟨fun hb=>dq (h.1 hb) k,fun hb=>dq (h.2 hb) k⟩
 | .Nb a,S,Q,Q',h,k=> ⟨fun σ ho=>mN (h.h σ ho) fun v σ' r w ⟨S',h1,h2⟩=> ⟨S',h1,k _ _ _ _ h2⟩⟩
 | .alt x y,S,Q,Q',h,k=>by
   rcases h with h| h
   · exact .inl (dq h k)
   · exact .inr (dq h k)
 | .all f,S,Q,Q',h,k=>fun n=>dq (h n) k
theorem rF: ∀ {os:List bF} {S:SS} {Q Q':SS→Prop},Ct E os S Q→(∀S',Q S'→Q' S')→Ct E os S Q'
 | [],_,_,_,h,k=>k _ h
 | o::os,_,_,_,h,k=>dq h fun _ ⟨T,O⟩ _ _ h=>by
   cases hd:o.dst with
   | none=>simp only[hd] at h ⊢;exact rF h k
   | some d=>simp only[hd] at h ⊢;exact rF h k
theorem rG: ∀ {os:List bF} {S:SS} {Q Q':List eB→SS→Prop},Cu E os S Q→(∀fs S',Q fs S'→Q' fs S')→Cu E os S Q'
 | [],_,_,_,h,k=>k _ _ h
 | o::os,_,_,_,h,k=>dq h fun _ ⟨T,O⟩ _ _ h=>by
   cases hd:o.dst with
   | none=>simp only[hd] at h ⊢;exact rG h fun _ _ h=>k _ _ h
   | some d=>simp only[hd] at h ⊢;exact rG h fun _ _ h=>k _ _ h
theorem gz: ∀ {c:az} {S:SS} {Q Q':aW→SS→Prop},gY E c S Q→(∀e S',Q e S'→Q' e S')→gY E c S Q'
 | .skip,_,_,_,h,k=>k _ _ h
 | .region _,_,_,_,h,k=>rF h fun _ h=>k _ _ h
 | .drawn _,_,_,_,h,k=>rG h fun _ _ h=> ⟨h.1,k _ _ h.2⟩
 | .seq a b,_,Q,Q',h,k=>gz (c:=a) h fun e S' h'=>by
   cases e with
   | normal=>exact gz (c:=b) h' k
   | exit id=>exact k _ _ h'
   | ret=>exact k _ _ h'
 | .cond c a b,S,Q,Q',h,k=>by
   simp only[gY] at h ⊢
   cases c with
   | tmp t=>
     simp only at h ⊢
     split at h
     · exact⟨fun hb=>gz (c:=a) (h.1 hb) k,fun hb=>gz (c:=b) (h.2 hb) k⟩
     · exact h.elim
   | const v=>
     cases v
     case bool c=>exact⟨fun hb=>gz (c:=a) (h.1 hb) k,fun hb=>gz (c:=b) (h.2 hb) k⟩
     all_goals exact h.elim
 | .block id b,_,Q,Q',h,k=>gz (c:=b) h fun e S' h'=>by
   cases e with
   | normal=>exact k _ _ h'
   | ret=>exact k _ _ h'
   | exit jV=>
     simp only[Ex] at h' ⊢
     cases hb:Nat.beq jV id with
     | true=>simp only[hb,cond_true] at h' ⊢;exact k _ _ h'
     | false=>simp only[hb,cond_false] at h' ⊢;exact k _ _ h'
 | .loop b,_,_,_,h,k=> ⟨fun σ ho=>iD (h.h σ ho) fun e σ' ⟨S',h1,h2⟩=> ⟨S',h1,k _ _ h2⟩⟩
 | .exit _,_,_,_,h,k=>k _ _ h
 | .ret,_,_,_,h,k=>k _ _ h
 | .scope b,_,_,_,h,k=>gz (c:=b) h k
 | .mJ ..,_,_,_,h,k=> ⟨fun σ ho=>iD (h.h σ ho) fun e σ' ⟨S',h1,h2⟩=> ⟨S',h1,k _ _ h2⟩⟩
 | .keys ..,_,_,_,h,k=> ⟨fun σ ho=>iD (h.h σ ho) fun e σ' ⟨S',h1,h2⟩=> ⟨S',h1,k _ _ h2⟩⟩
 | .bad,_,_,_,h,_=>h
inductive bc {α:Type} (Sh:α→SS) (P:α→Prop) (μ:α→Nat) (a:α) (S:SS):Prop
 | mk (a':α) (h1:μ a'<μ a) (h2:P a') (h3: (Sh a').Sub S)
def Js {α:Type} (Q:aW→SS→Prop) (Sh:α→SS) (P:α→Prop) (μ:α→Nat) (a:α):aW→SS→Prop
 | .normal,S=>bc Sh P μ a S
 | .exit id,S=>Q (.exit id) S
 | .ret,S=>Q .ret S
theorem ba.by {α:Type} {b:az} {Q:aW→SS→Prop} {S:SS} (Sh:α→SS) (P:α→Prop) (μ:α→Nat) (a0:α) (hs: (Sh a0).Sub S) (h0:P a0)
   (step: ∀a,P a→gY E b (Sh a) (Js Q Sh P μ a)):ba E b S Q:=by
 refine ba.of (fun k S=> ∃a,k=μ a∧P a∧S=Sh a) ?_ hs ⟨a0,rfl,h0,rfl⟩
 rintro k S ⟨a,rfl,hp,rfl⟩
 refine gz (step a hp) fun e S' h=> ?_
 cases e with
 | normal=>
   obtain⟨a',h1,h2,h3⟩:=h
   exact⟨_,h1,_,h3,a',rfl,h2,rfl⟩
 | exit id=>exact h
 | ret=>exact h
theorem ba.Jt {b:az} {Q:aW→SS→Prop} {S:SS} (h:ba E b S fun e S'=> ∃S0,S0.Sub S'∧Q e S0):ba E b S Q:=by
 refine⟨fun σ ho=>iD (h.h σ ho) ?_⟩
 rintro e σ' ⟨S',h1,S0,h2,h3⟩
 exact⟨S0,h2.on h1,h3⟩
def Nf (K:SS→Prop):aW→SS→Prop
 | .normal,S=>K S
 | _,_=>False
def xX (S:SS):List Nat→List V→SS
 | p::ps,x::xs=>xX (S.put (some p) x) ps xs
 | _,_=>S
theorem xY: ∀ {ps:List Nat} {x:List V} {S:SS} {T:Nat→V} {O:Nat→Obj},S.On ⟨T,O⟩→(xX S ps x).On ⟨mS T ps x,O⟩
 | [],x,S,T,O,h=>by simpa [xX,mS] using h
 | p::ps,[],S,T,O,h=>by simpa [xX,mS] using h
 | p::ps,x::xs,S,T,O,h=>xY (ps:=ps) (x:=xs) (h.put (some p) x)
inductive Su {α:Type} (Oh:α→List (Nat×Obj)) (P:α→Prop) (O:List (Nat×Obj)):Prop
 | mk (a:α) (h1:P a) (h2:sR (Oh a) O)
def Sv {α:Type} (Q:aW→SS→Prop) (T:List (Nat×V)) (Oh:α→List (Nat×Obj)) (P:α→Prop):aW→SS→Prop
 | .normal,S=>Su Oh P S.O
 | .exit id,S=>Q (.exit id) ⟨T,S.O⟩
 | .ret,S=>Q .ret ⟨T,S.O⟩
theorem z8.by {α:Type} {fx:aT} {ps:List Nat} {ac b:az} {S:SS} {Q:aW→SS→Prop} {g:Nat} {caps:List V} (xs:List (List V)) (hf:match fx with| .tmp t=>lk S.T t=some (.fn g caps) | .const v=>v= .fn g caps) (hi:E.iter g caps=some xs) (hl: ∀x ∈ xs,x.length=ps.length)
  (Oh:α→List (Nat×Obj)) (P:Nat→α→Prop) (a0:α) (h0:sR (Oh a0) S.O) (hp:P 0 a0)
  (step: ∀ (k:Nat) x a,xs[k]? =some x→P k a→gY E ac (xX ⟨S.T,Oh a⟩ ps x) (Nf fun S1=>gY E b S1 (Sv Q S.T Oh (P (k+1)))))
  (fin: ∀a,P xs.length a→Q .normal ⟨S.T,Oh a⟩):z8 E fx ps ac b S Q:=by
 refine⟨fun σ ho=> ?_⟩
 have Ng: ∀ {l:List (Nat×Obj)} {σ:St} {m:List (Nat×Obj)},sR l m→(∀r o,lk m r=some o→σ.O r=o)→ ∀r o,lk l r=some o→σ.O r=o:=fun {l σ m} hs hm=>by
  have h2: (⟨[],m⟩:SS).On σ:=⟨fun t v h=>by simp[lk] at h,hm⟩
  exact(SS.Sub.on (S:=⟨[],l⟩) (S':=⟨[],m⟩) ⟨trivial,hs⟩ h2).2
 have run: ∀ (rest:List (List V)) (k:Nat) (a:α) (O:Nat→Obj),xs.drop k=rest→P k a→(∀r o,lk (Oh a) r=some o→O r=o)→k≤xs.length→ ∃n e σ',ql (exec E n) ps ac b σ.T rest O=some (e,σ')∧ ∃S',S'.On σ'∧Q e S':=by
  intro rest
  induction rest with
  | nil=>
    intro k a O hd MG hO MH
    have hk:xs.length≤k:=by
      have:=congrArg List.length hd
      simp at this;omega
    have:k=xs.length:=by omega
    subst this
    exact⟨0,.normal,⟨σ.T,O⟩,rfl,⟨S.T,Oh a⟩,⟨ho.1,hO⟩,fin a MG⟩
  | cons x rest ih=>
    intro k a O hd MG hO MH
    have hk:k<xs.length:=by
      rcases Nat.lt_or_ge k xs.length with h| h
      · exact h
      · rw[List.drop_of_length_le h] at hd;simp at hd
    rw[List.drop_eq_getElem_cons hk] at hd
    injection hd with hx hd
    have ef:xs[k]? =some x:=by rw[List.getElem?_eq_getElem hk,hx]
    obtain⟨n1,e1,σ1,h1,S1,h2,h3⟩:=cV (step k x a ef MG) (xY (x:=x) (ps:=ps) (S:=⟨S.T,Oh a⟩) (T:=σ.T) (O:=O) ⟨ho.1,hO⟩)
    cases e1 with
    | exit id=>exact h3.elim
    | ret=>exact h3.elim
    | normal=>
      obtain⟨n2,e2,σ2,k1,S2,k2,k3⟩:=cV h3 h2
      cases e2 with
      | normal=>
        obtain⟨a',q1,q2⟩:=k3
        obtain⟨n3,e,σ',l1,l2⟩:=ih (k+1) a' σ2.O hd q1 (Ng (σ:=σ2) q2 k2.2) (by omega)
        refine⟨max n1 (max n2 n3),e,σ',?_,l2⟩
        have m1:=cH (E:=E) (Nat.le_max_left n1 (max n2 n3)) _ _ _ h1
        have m2:=cH (E:=E) (Nat.le_trans (Nat.le_max_left n2 n3) (Nat.le_max_right n1 _)) _ _ _ k1
        have m3:=re (fun c σ x h=>cH (E:=E) (Nat.le_trans (Nat.le_max_right n2 n3) (Nat.le_max_right n1 _)) c σ x h) l1
        simp only[ql,m1,m2,m3]
      | exit id=>
        refine⟨max n1 n2,.exit id,⟨σ.T,σ2.O⟩,?_,⟨S.T,S2.O⟩,⟨ho.1,k2.2⟩,k3⟩
        have m1:=cH (E:=E) (Nat.le_max_left n1 n2) _ _ _ h1
        have m2:=cH (E:=E) (Nat.le_max_right n1 n2) _ _ _ k1
        simp only[ql,m1,m2]
      | ret=>
        refine⟨max n1 n2,.ret,⟨σ.T,σ2.O⟩,?_,⟨S.T,S2.O⟩,⟨ho.1,k2.2⟩,k3⟩
        have m1:=cH (E:=E) (Nat.le_max_left n1 n2) _ _ _ h1
        have m2:=cH (E:=E) (Nat.le_max_right n1 n2) _ _ _ k1
        simp only[ql,m1,m2]
 obtain⟨n,e,σ',h1,h2⟩:=run xs 0 a0 σ.O (by simp) hp (Ng (σ:=σ) h0 ho.2) (Nat.zero_le _)
 refine⟨n+1,e,σ',?_,h2⟩
 have Nh:bn σ fx= .fn g caps:=by
  cases fx with
  | tmp t=>exact ho.1 t _ hf
  | const v=>exact hf
 have qm:xs.all (fun x=>Nat.beq x.length ps.length)=true:=by
  rw[List.all_eq_true];intro x hx;rw[Nat.beq_eq];exact hl x hx
 simp only[exec,aJ,Nh,hi,qm,if_true,h1]
def Ez (K:SS→Prop):aW→SS→Prop
 | .normal,S=>K S
 | _,_=>False
def Ni (id:Nat) (K:SS→Prop):aW→SS→Prop
 | .exit jV,S=>eY (jV=id) (K S)
 | _,_=>False
theorem Aa {α:Type}: ∀ {l:List (Nat×α)} {n:Nat} {v:α},lk l n=some v→(n,v) ∈ l
 | [],n,v,h=>by simp[lk] at h
 | (k,u)::l,n,v,h=>by
   rw[eD] at h
   split at h
   · rename_i e
     simp only at e
     subst e
     injection h with h;subst h;simp
   · exact List.mem_cons_of_mem _ (Aa h)
theorem Ey.by {it nx ne id:Nat} {kT kO:List Nat} {h0 b l:az} {Q:aW→SS→Prop} {S:SS} {r g:Nat} {arr:Bool} {es:List V} (Sh:List V→SS) (Sf:SS)
   (hT:lk S.T it=some (.it r g)) (hO:lk S.O r=some ⟨g,0,arr,false,some [.mlit es]⟩) (VZ: (Sh []).Sub ⟨S.T,(r,⟨g,0,false,false,none⟩)::S.O⟩)
   (vP: ∀d,lk (Sh d).T it=some (.it r g)) (hg: ∀d,∃o,lk (Sh d).O r=some o∧o.gen=g) (bQ: ∀e ∈ es,∃k v,e= .tuple [k,v])
   (step: ∀d k v rest,(d++ .tuple [k,v]::rest).Perm es→gY E h0 (SS.put (Sh d) (some nx) (.tuple [.bool true,k,v])) (Ez fun S1=> (lk S1.T it=some (.it r g)∧ ∃o,lk S1.O r=some o∧o.gen=g)∧gY E b (SS.put S1 (some ne) (.tuple [k,v])) (Ez fun S'=> (Sh (d++[.tuple [k,v]])).Sub S')))
   (last: ∀d,d.Perm es→gY E h0 (SS.put (Sh d) (some nx) (.tuple [.bool false])) (Ni id fun S'=>gY E l S' (Ez fun Jr=>Sf.Sub Jr)))
   (Iq:kT.all (fun t=> (lk Sf.T t).isSome)=true) (Ir:kO.all (fun t=> (lk Sf.O t).isSome)=true) (fT:Sf.T.all (fun p=>kT.contains p.1)=true) (fO:Sf.O.all (fun p=>kO.contains p.1)=true)
   (hQ:Q .normal Sf):Ey E it nx ne id kT kO h0 b l S Q:=by
 refine⟨fun σ ho=> ?_⟩
 have Sw: (Sh []).On ⟨σ.T,dm σ.O r ⟨g,0,false,false,none⟩⟩:=by
   refine VZ.on ⟨fun t v hv=>ho.1 t v hv,fun x o hx=> ?_⟩
   rw[eD] at hx
   show dm σ.O r _ x=o
   unfold dm
   by_cases e:r=x
   · simp only[e,if_true,Option.some.injEq] at hx ⊢;exact hx
   · rw[if_neg e] at hx;rw[if_neg (Ne.symm e)];exact ho.2 x o hx
 have Is: ∀d (τ:St),(Sh d).On τ→sS it r g τ=true:=fun d τ hτ=>by
   obtain⟨o,h1,h2⟩:=hg d
   unfold sS
   rw[hτ.1 _ _ (vP d),hτ.2 _ _ h1]
   simp[h2]
 have run: ∀ (rest d:List V) (τ:St),(d++rest).Perm es→(Sh d).On τ→ ∃n σp,runK (exec E n) it r g nx ne id h0 b l rest τ=some σp∧Sf.On σp:=by
   intro rest
   induction rest with
   | nil=>
     intro d τ hp hτ
     obtain⟨n1,e,τ1,h1,S1,h2,h3⟩:=cV (last d (by simpa using hp)) (hτ.put (some nx) (.tuple [.bool false]))
     cases e with
     | normal=>exact h3.elim
     | ret=>exact h3.elim
     | exit jV=>
       obtain⟨rfl,h3⟩:=h3
       obtain⟨n2,e2,τ2,k1,S2,k2,k3⟩:=cV h3 h2
       cases e2 with
       | exit jV=>exact k3.elim
       | ret=>exact k3.elim
       | normal=>
         refine⟨max n1 n2,τ2,?_,SS.Sub.on k3 k2⟩
         have m1:=cH (E:=E) (Nat.le_max_left n1 n2) _ _ _ h1
         have m2:=cH (E:=E) (Nat.le_max_right n1 n2) _ _ _ k1
         simp only[runK,Is d τ hτ,if_true,m1,m2]
   | cons x rest ih=>
     intro d τ hp hτ
     obtain⟨k,v,rfl⟩:=bQ x (hp.mem_iff.1 (by simp))
     obtain⟨n1,e,τ1,h1,S1,h2,h3⟩:=cV (step d k v rest hp) (hτ.put (some nx) (.tuple [.bool true,k,v]))
     cases e with
     | exit jV=>exact h3.elim
     | ret=>exact h3.elim
     | normal=>
       obtain⟨⟨t1,o1,t2,t3⟩,h3⟩:=h3
       have Sx:sS it r g τ1=true:=by
         unfold sS
         rw[h2.1 _ _ t1,h2.2 _ _ t2]
         simp[t3]
       obtain⟨n3,e3,τ3,l1,S3,l2,l3⟩:=cV h3 (h2.put (some ne) (.tuple [k,v]))
       cases e3 with
       | exit jV=>exact l3.elim
       | ret=>exact l3.elim
       | normal=>
         obtain⟨n2,σp,k1,k2⟩:=ih (d++[.tuple [k,v]]) τ3 (by simpa using hp) (SS.Sub.on l3 l2)
         refine⟨max n1 (max n3 n2),σp,?_,k2⟩
         have m1:=cH (E:=E) (Nat.le_max_left n1 (max n3 n2)) _ _ _ h1
         have m3:=cH (E:=E) (Nat.le_trans (Nat.le_max_left n3 n2) (Nat.le_max_right n1 _)) _ _ _ l1
         have m2:=nJ (fun c σ x h=>cH (E:=E) (Nat.le_trans (Nat.le_max_right n3 n2) (Nat.le_max_right n1 _)) c σ x h) k1
         simp only[runK,Is d τ hτ,Sx,if_true,m1,m3,m2]
 obtain⟨n,ys,h1,h2,h3⟩:=tV (f:=fun n p=>runK (exec E n) it r g nx ne id h0 b l p ⟨σ.T,dm σ.O r ⟨g,0,false,false,none⟩⟩) (P:=fun σp=>Sf.On σp)
   (fun n m p y xZ h=>nJ (fun c σ x h=>cH (E:=E) xZ c σ x h) h) (l:=perms es) fun p hp=>run p [] _ (by simpa using sf hp) Sw
 have cT:perms es≠[]:=fun e=>by have:=mT (List.Perm.refl es);rw[e] at this;simp at this
 match ys,h2,h3,h1 with
 | [],h2,_,_=>exact absurd (List.length_eq_zero_iff.1 h2.symm) cT
 | σ1::σs,_,h3,h1=>
   have V0:σ.T it= .it r g:=ho.1 _ _ hT
   have V1:=ho.2 _ _ hO
   have Ju:σs.all (agree kT kO σ1)=true:=by
     rw[List.all_eq_true]
     intro τ hτ
     have o1:=h3 σ1 (by simp)
     have o2:=h3 τ (by simp[hτ])
     simp only[agree,Bool.and_eq_true,List.all_eq_true] at Iq Ir ⊢
     refine⟨fun t ht=> ?_,fun x hx=> ?_⟩
     · obtain⟨v,hv⟩:=Option.isSome_iff_exists.1 (Iq t ht)
       rw[o1.1 t v hv,o2.1 t v hv];exact V.jE v
     · obtain⟨v,hv⟩:=Option.isSome_iff_exists.1 (Ir x hx)
       rw[o1.2 x v hv,o2.2 x v hv];exact Obj.jE v
   refine⟨n+1,.normal,forget kT kO σ1 σs,?_,Sf,?_,hQ⟩
   · simp only[exec,aJ,V0,V1,and_self,if_true,h1,Ju]
   · have o1:=h3 σ1 (by simp)
     refine⟨fun t v hv=> ?_,fun x o hx=> ?_⟩
     · have:=List.all_eq_true.1 fT _ (Aa hv)
       simp only[forget,this,if_true]
       exact o1.1 t v hv
     · have:=List.all_eq_true.1 fO _ (Aa hx)
       simp only[forget,this,if_true]
       exact o1.2 x o hx
theorem It (i:Nat) (h:i< 4611686018427387904):V.int .i64 (IntKind.i64.wrap ((i:Int)+1))=V.int .i64 ((i+1:Nat):Int):=by
 rw[wrap64 (by omega) (by omega)];rfl
def Cv ( S:SS):List p8→(List V→Prop)→Prop
 | [],k=>k []
 | .tmp t::rs,k=> (match lk S.T t with
   | some v=>Cv S rs fun vs=>k (v::vs)
   | none=>False)
 | .cell t agg sz::rs,k=> (match lk S.T t with
   | some (.ptr r g idx off)=> (match lk S.O r with
     | some ⟨cC,_,_,_,iv⟩=> (match iv with
       | some [e]=> (match idx with
         | 0=>eY (cC=g) (match tO agg off sz e with
           | some v=>Cv S rs fun vs=>k (v::vs)
           | none=>False)
         | _+1=>False)
       | _=>False)
     | none=>False)
   | _=>False)
theorem pt {  S:SS} {σ:St} (ho:S.On σ): ∀ {rs:List p8} {k:List V→Prop},Cv S rs k→ ∃vs,db σ rs=some vs∧k vs
 | [],k,h=> ⟨[],rfl,h⟩
 | .tmp t::rs,k,h=>by
   simp only[Cv] at h
   split at h
   · rename_i v hv
     obtain⟨vs,h1,h2⟩:=pt ho h
     exact⟨v::vs,by simp[db,eL,h1,ho.1 t v hv],h2⟩
   · exact h.elim
 | .cell t agg sz::rs,k,h=>by
   simp only[Cv] at h
   split at h
   · rename_i r g idx off hv
     split at h
     · rename_i cC gl dr iM iv hr
       split at h
       · rename_i e
         split at h
         · obtain⟨hg,h⟩:=h
           split at h
           · rename_i v hp
             obtain⟨vs,h1,h2⟩:=pt ho h
             refine⟨v::vs,?_,h2⟩
             simp[db,eL,h1,ho.1 t _ hv,ho.2 r _ hr,hg,jz hp]
           · exact h.elim
         · exact h.elim
       · exact h.elim
     · exact h.elim
   · exact h.elim
def sg (S:SS):Nat→List V→(List (Nat×List V)→Prop)→Prop
 | _,[],k=>k []
 | i,.msl sz _ _ _::as,k| i,.mptr sz _ _ _::as,k=> (match lk S.O i with
   | some ⟨cC,gl,_,iM,iv⟩=> (match iv with
     | some es=>eY (iM=false∧gl=sz∧V.aq es=true) (sg S (i+1) as fun outs=>k ((cC,es)::outs))
     | none=>False)
   | none=>False)
 | i,_::as,k=>sg S (i+1) as k
theorem j8 {S:SS} {σ:St} (ho:S.On σ): ∀ {as:List V} {i:Nat} {k:List (Nat×List V)→Prop},sg S i as k→ ∃outs,bX σ.O i as=some outs∧k outs
 | [],i,k,h=> ⟨[],by simp[bX],by simpa [sg] using h⟩
 | a::as,i,k,h=>by
   cases a
   case msl sz es' off len=>
    simp only[sg] at h
    split at h
    · rename_i cC gl dr iM iv hr
      split at h
      ·  rename_i es
         obtain⟨hc,h⟩:=h
         obtain⟨outs,h1,h2⟩:=j8 ho h
         refine⟨_,?_,h2⟩
         simp[bX,ho.2 i _ hr,h1,hc]
      · exact h.elim
    · exact h.elim
   case mptr sz es' off len=>
    simp only[sg] at h
    split at h
    · rename_i cC gl dr iM iv hr
      split at h
      ·  rename_i es
         obtain⟨hc,h⟩:=h
         obtain⟨outs,h1,h2⟩:=j8 ho h
         refine⟨_,?_,h2⟩
         simp[bX,ho.2 i _ hr,h1,hc]
      · exact h.elim
    · exact h.elim
   all_goals
    simp only[sg] at h
    obtain⟨outs,h1,h2⟩:=j8 ho h
    exact⟨outs,by simp[bX,h1],h2⟩
def qn ( n:Nat) (S:SS) (c:V) (k:V→List Nat→Prop):Prop:=
 match c with
 | .sl r g off len=> (match lk S.O r with
   | some ⟨cC,gl,dr,iM,iv⟩=> (match iv with
     | some es=>eY (cC=g∧dr=true) (aH (fun ys=>aO es off len=ys) fun ys=>eY (off+len≤es.length∧V.aq ys=true)
        (bif Nat.blt r n then k (.sl r g off len) [r] else bif iM then k (.lit gl ys) [] else k (.own gl ys) [r]))
     | none=>False)
   | none=>False)
 | c=>eY (V.aE c=true) (k c [])
theorem mU {n:Nat} {S:SS} {σ:St} (ho:S.On σ) {c:V} {k:V→List Nat→Prop} (h:qn n S c k): ∃v rs,bP n σ c=some (v,rs)∧k v rs:=by
 unfold qn at h
 split at h
 · rename_i r g off len
   split at h
   · rename_i cC gl dr iM iv hr
     split at h
     · rename_i es
       obtain⟨⟨h1,h2⟩,ys,rfl,⟨h3,h4⟩,h⟩:=h
       have e1:=ho.2 r _ hr
       simp only[bP,e1,h1,h2,h3,h4,and_self,if_true]
       cases hb:Nat.blt r n with
       | true=>
         have:r<n:=by simpa [Nat.blt_eq] using hb
         simp only[hb,cond_true] at h
         rw[if_pos this];exact⟨_,_,rfl,h⟩
       | false=>
         have: ¬r<n:=by intro hc;rw[←Nat.blt_eq,hb] at hc;simp at hc
         simp only[hb,cond_false] at h
         rw[if_neg this]
         cases hz:iM with
         | true=>simp only[hz,cond_true] at h;exact⟨_,_,by simp[e1,hz],h⟩
         | false=>simp only[hz,cond_false] at h;exact⟨_,_,by simp[e1,hz],h⟩
     · exact h.elim
   · exact h.elim
 · rename_i hn
   refine⟨c,[],?_,h.rest⟩
   have h:=h.side
   unfold bP
   cases c
   case sl=>exact absurd rfl (hn _ _ _ _)
   all_goals simp_all
def nP (n:Nat) (S:SS):List V→(List V→List Nat→Prop)→Prop
 | [],k=>k [] []
 | c::cs,k=>qn n S c fun c' r=>nP n S cs fun cY rs=>k (c'::cY) (r++rs)
theorem iO {n:Nat} {S:SS} {σ:St} (ho:S.On σ): ∀ {cs:List V} {k:List V→List Nat→Prop},nP n S cs k→ ∃v rs,bG n σ cs=some (v,rs)∧k v rs
 | [],_,h=> ⟨[],[],rfl,h⟩
 | c::cs,k,h=>by
   obtain⟨v,r,h1,h2⟩:=mU ho h
   obtain⟨vs,rs,h3,h4⟩:=iO ho h2
   exact⟨_,_,by simp[bG,h1,h3],h4⟩
def EA (n:Nat) (S:SS) (v:V) (k:V→List Nat→Prop):Prop:=
 bif V.aE v then k v [] else
 match v with
 | .agg cs=>nP n S cs fun cY rs=>k (.agg cY) rs
 | .fn f cs=>nP n S cs fun cY rs=>eY (V.aq cY=true) (k (.fn f cY) rs)
 | v=>qn n S v k
theorem yb {n:Nat} {S:SS} {σ:St} (ho:S.On σ) {v:V} {k:V→List Nat→Prop} (h:EA n S v k): ∃v' rs,cF n σ v=some (v',rs)∧k v' rs:=by
 unfold EA at h
 unfold cF
 cases hp:V.aE v with
 | true=>simp only[hp,cond_true] at h;exact⟨v,[],by simp,h⟩
 | false=>
   simp only[hp,cond_false] at h
   simp only[Bool.false_eq_true,if_false]
   split at h
   · obtain⟨cY,rs,h1,h2⟩:=iO ho h
     exact⟨_,_,by simp[h1],h2⟩
   · obtain⟨cY,rs,h1,h2,h3⟩:=iO ho h
     exact⟨_,_,by simp[h1,h2],h3⟩
   · obtain⟨v',rs,h1,h2⟩:=mU ho h
     exact⟨v',rs,by cases v<;>simp_all,h2⟩
def Ab (n:Nat) (S:SS):List V→(List V→List Nat→Prop)→Prop
 | [],k=>k [] []
 | c::cs,k=>EA n S c fun c' r=>Ab n S cs fun cY rs=>k (c'::cY) (r++rs)
theorem qo {n:Nat} {S:SS} {σ:St} (ho:S.On σ): ∀ {cs:List V} {k:List V→List Nat→Prop},Ab n S cs k→ ∃v rs,cr n σ cs=some (v,rs)∧k v rs
 | [],_,h=> ⟨[],[],rfl,h⟩
 | c::cs,k,h=>by
   obtain⟨v,r,h1,h2⟩:=yb ho h
   obtain⟨vs,rs,h3,h4⟩:=qo ho h2
   exact⟨_,_,by simp[cr,h1,h3],h4⟩
def tW (rs:List p8) (args:List V) (S:SS) (R:fK→Prop):Prop:=
 Cv S rs fun vs=>sg S 0 args fun outs=>Ab args.length S vs fun vs' refs=>eY (distinct refs=true) (match vs' with
  | [v]=>R ⟨v,outs⟩
  | vs'=>R ⟨.tuple vs',outs⟩)
def yc (rs:List p8) (args:List V) (R:fK→Prop):aW→SS→Prop
 | .exit _,_=>False
 | .normal,S=>tW rs args S R
 | .ret,S=>tW rs args S R
theorem qp {rs:List p8} {args:List V} {S:SS} {R:fK→Prop} {σ:St} (ho:S.On σ) (h:tW rs args S R): ∃res,leave ⟨0,0,[],rs,.skip,none⟩ args σ=some res∧R res:=by
 obtain⟨vs,h1,h⟩:=pt ho h
 obtain⟨outs,h2,h⟩:=j8 ho h
 obtain⟨vs',refs,h3,h4,h⟩:=qo ho h
 simp only[leave,h1,h2,h3]
 split at h
 · rename_i v
   exact⟨_,by simp[h4],h⟩
 · rename_i hn
   refine⟨⟨.tuple vs',outs⟩,?_,h⟩
   split
   · rename_i v rs' heq
     injection heq with e1;injection e1 with e1 e2
     exact absurd e1 (by intro hh;exact hn v hh)
   · rename_i V2 X4 heq
     injection heq with e1;injection e1 with e1 e2
     subst e1 e2
     simp[h4]
   · rename_i heq;simp at heq
def ku:Nat→List V→List (Nat×V)
 | _,[]=> []
 | i,.msl _ _ off len::as=> (i,.sl i 0 off len)::ku (i+1) as
 | i,.mptr _ _ idx off::as=> (i,.ptr i 0 idx off)::ku (i+1) as
 | i,v::as=> (i,v)::ku (i+1) as
def kx:Nat→List V→List (Nat×Obj)
 | _,[]=> []
 | i,.msl sz es _ _::as=> (i,{gen:=0,sz,arr:=true,fz:=false,es:=some es})::kx (i+1) as
 | i,.mptr sz es _ _::as=> (i,{gen:=0,sz,arr:=false,fz:=false,es:=some es})::kx (i+1) as
 | i,_::as=>kx (i+1) as
def tX (args:List V):SS:=⟨ku 0 args,kx 0 args⟩
theorem vQ: ∀ (as pre:List V) (t:Nat) (v:V),lk (ku pre.length as) t=some v→(enter (pre++as)).T t=v
 | [],_,_,_,h=>by simp[ku,lk] at h
 | a::as,pre,t,v,h=>by
   have ih:=vQ as (pre++[a]) t v
   simp only[List.length_append,List.length_cons,List.length_nil,Nat.zero_add,List.append_assoc,List.singleton_append] at ih
   have key: ∀x,lk ((pre.length,x)::ku (pre.length+1) as) t=some v→(enter (pre++a::as)).T pre.length=x→(enter (pre++a::as)).T t=v:=by
    intro x hx hv
    rw[eD] at hx
    by_cases e:pre.length=t
    · simp only[e,if_true,Option.some.injEq] at hx;rw[←hx,←hv,e]
    · simp only[e,if_false] at hx;exact ih hx
   have hg: (pre++a::as)[pre.length]? =some a:=by simp
   cases a
   case msl=>exact key _ (by simpa [ku] using h) (by simp[enter,hg])
   case mptr=>exact key _ (by simpa [ku] using h) (by simp[enter,hg])
   all_goals exact key _ (by simpa [ku] using h) (by simp[enter,hg])
theorem vR: ∀ (as pre:List V) (t:Nat) (v:Obj),lk (kx pre.length as) t=some v→(enter (pre++as)).O t=v
 | [],_,_,_,h=>by simp[kx,lk] at h
 | a::as,pre,t,v,h=>by
   have ih:=vR as (pre++[a]) t v
   simp only[List.length_append,List.length_cons,List.length_nil,Nat.zero_add,List.append_assoc,List.singleton_append] at ih
   have key: ∀x,lk ((pre.length,x)::kx (pre.length+1) as) t=some v→(enter (pre++a::as)).O pre.length=x→(enter (pre++a::as)).O t=v:=by
    intro x hx hv
    rw[eD] at hx
    by_cases e:pre.length=t
    · simp only[e,if_true,Option.some.injEq] at hx;rw[←hx,←hv,e]
    · simp only[e,if_false] at hx;exact ih hx
   have hg: (pre++a::as)[pre.length]? =some a:=by simp
   cases a
   case msl=>exact key _ (by simpa [kx] using h) (by simp[enter,hg])
   case mptr=>exact key _ (by simpa [kx] using h) (by simp[enter,hg])
   all_goals exact ih (by simpa [kx] using h)
theorem vS (args:List V): (tX args).On (enter args):=
 ⟨fun t v h=>vQ args [] t v h,fun r o h=>vR args [] r o h⟩
theorem Ev.cQ {f:Nat} {af:aZ} {args:List V} {R:fK→Prop} (hf:E.fn f=some af) (hx:E.ext f args=none) (hl:args.length=af.nparams)
  (h:gY E af.body (tX args) (yc af.results args R)) (ht:af.tag=none:=by rfl) (hh:E.hyb f=none:=by rfl): ∃res,Ev E f args res∧R res:=by
 obtain⟨n,e,σ',h1,S',h2,h3⟩:=cV h (vS args)
 have key: ∀ {e},exec E n af.body (enter args)=some (e,σ')→(e= .normal∨e= .ret)→tW af.results args S' R→ ∃res,Ev E f args res∧R res:=by
  intro e h1 he MI
  obtain⟨res,h4,h5⟩:=qp h2 MI
  refine⟨res,⟨n,?_⟩,h5⟩
  unfold call dO
  rw[hh];simp only[ju]
  rw[hx];simp only[hf,hl,if_true,ht,h1]
  rcases he with rfl| rfl<;>exact h4
 cases e with
 | normal=>exact key h1 (.inl rfl) h3
 | ret=>exact key h1 (.inr rfl) h3
 | exit id=>exact h3.elim
theorem Ev.bU {f:Nat} {af:aZ} {args:List V} {res:fK} (hf:E.fn f=some af) (hx:E.ext f args=none) (hl:args.length=af.nparams)
  (h:gY E af.body (tX args) (yc af.results args (· =res))) (ht:af.tag=none:=by rfl) (hh:E.hyb f=none:=by rfl):Ev E f args res:=by
 obtain⟨r,h1,rfl⟩:=Ev.cQ hf hx hl h ht hh
 exact h1
end
end Go.AM
