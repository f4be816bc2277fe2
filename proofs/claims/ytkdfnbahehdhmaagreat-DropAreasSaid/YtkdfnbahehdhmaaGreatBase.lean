/-
  Texts of the proof, joined by program: AmWp, AmSim, AmSortL, AmTab, AmHyb, AmOth, AmS, AmS2, AmS3, AmS4, AmS5, AmMemo. Own work.
-/
import Derived.Test.YtkdfnbahehdhmaaGreatDefs
import Derived.Attr
set_option linter.unusedSimpArgs false
set_option linter.unusedVariables false
namespace Go.AM
def Ck (C C':aO):Prop:= ∀f as r,C f as=some r→C' f as=some r
theorem Act.fX {C C':aO} (h:Ck C C'): ∀ (a:Act) (σ:St) (r:V×St),a.run C σ=some r→a.run C' σ=some r
 | .done v,σ,r,e=>by simpa [Act.run] using e
 | .fail,σ,r,e=>by simp[Act.run] at e
 | .ke t k,σ,r,e=>by simp only[Act.run] at e ⊢;exact Act.fX h _ _ _ e
 | .bB t k,σ,r,e=>by simp only[Act.run] at e ⊢;exact Act.fX h _ _ _ e
 | .bg t o k,σ,r,e=>by simp only[Act.run] at e ⊢;exact Act.fX h _ _ _ e
 | .call f as k,σ,r,e=>by
   simp only[Act.run] at e ⊢
   split at e
   · rename_i res kn
     rw[h f as res kn]
     exact Act.fX h _ _ _ e
   · simp at e
theorem Act.fu {C C':aO} (h:Ck C C'): ∀ (a:Act) (σ:St) (r:V×St),a.run C σ=some r→a.c9 C' σ=a.c9 C σ
 | .done v,σ,r,e=>by simp[Act.c9]
 | .fail,σ,r,e=>by simp[Act.run] at e
 | .ke t k,σ,r,e=>by simp only[Act.run] at e;simp only[Act.c9];rw[Act.fu h _ _ _ e]
 | .bB t k,σ,r,e=>by simp only[Act.run] at e;simp only[Act.c9];rw[Act.fu h _ _ _ e]
 | .bg t o k,σ,r,e=>by simp only[Act.run] at e;simp only[Act.c9];rw[Act.fu h _ _ _ e]
 | .call f as k,σ,r,e=>by
   simp only[Act.run] at e
   simp only[Act.c9]
   split at e
   · rename_i res kn
     rw[h f as res kn]
     simp only
     exact Act.fu h _ _ _ e
   · simp at e
theorem q7 {E:Env} {C C':aO} (h:Ck C C') {o:aX} {σ σ':St} (e:dB E C o σ=some σ'):dB E C' o σ=some σ':=by
 unfold dB at e ⊢
 split at e
 · rename_i v σ1 hr
   rw[Act.fX h _ _ _ hr];exact e
 · simp at e
theorem ko {E:Env} {C C':aO} (h:Ck C C'): ∀ {os:List aX} {σ σ':St},gl E C os σ=some σ'→gl E C' os σ=some σ'
 | [],_,_,e=>by simpa [gl] using e
 | o::os,_,_,e=>by
   simp only[gl] at e ⊢
   split at e
   · rename_i σ1 h1
     rw[q7 h h1]
     exact ko h e
   · simp at e
theorem sZ {E:Env} {C C':aO} (h:Ck C C') {o:aX} {σ σ':St} (e:dB E C o σ=some σ'):cn E C' o σ=cn E C o σ:=by
 unfold dB at e
 split at e
 · rename_i v σ1 hr
   simp only[cn,Act.fu h _ _ _ hr]
 · simp at e
theorem iW {E:Env} {C C':aO} (h:Ck C C'): ∀ {os:List aX} {bE:List dt} {before:List (List Nat)} {σ σ':St},c6 E C os bE before σ=some σ'→c6 E C' os bE before σ=some σ'
 | [],_,_,_,_,e=>by simpa [c6] using e
 | o::os,bE,before,σ,_,e=>by
   simp only[c6] at e ⊢
   split at e
   · rename_i hc
     split at e
     · rename_i σ1 h1
       rw[sZ h h1,q7 h h1,if_pos hc]
       exact iW h e
     · simp at e
   · simp at e
def HM (r r':an→St→Option (aP×St)):Prop:= ∀c σ x,r c σ=some x→r' c σ=some x
theorem pO {E:Env} {r r':an→St→Option (aP×St)} (h:HM r r'):Ck (iX E r) (iX E r'):=by
 intro f as res e
 unfold iX at e ⊢
 split at e
 · exact e
 · split at e
   · split at e
     · rename_i hl
       rw[if_pos hl]
       split at e
       · split at e
         · rename_i σ hx;rw[h _ _ _ hx];exact e
         · rename_i σ hx;rw[h _ _ _ hx];exact e
         · simp at e
       · split at e
         · rename_i hp
           rw[if_pos hp]
           split at e
           · rename_i σ hx;rw[h _ _ _ hx];exact e
           · rename_i σ hx;rw[h _ _ _ hx];exact e
           · simp at e
         · simp at e
     · simp at e
   · simp at e
theorem fL {E:Env} {r r':an→St→Option (aP×St)} (h:HM r r'):Ck (cK E r) (cK E r'):=by
 intro f as res e
 unfold cK at e ⊢
 split at e
 · rename_i g hg
   exact E.mono f g hg _ _ (pO h) _ _ e
 · exact pO h _ _ _ e
theorem mb {E:Env} {C C':aO} (hC:Ck C C') {r r':an→St→Option (aP×St)} (h:HM r r'):HM (aA E C r) (aA E C' r'):=by
 intro c σ x e
 cases c with
 | skip=>simpa [aA] using e
 | region ops=>
   simp only[aA,Option.map_eq_some_iff] at e ⊢
   obtain⟨σ1,h1,h2⟩:=e
   exact⟨σ1,ko hC h1,h2⟩
 | drawn ops=>
   simp only[aA,Option.map_eq_some_iff] at e ⊢
   obtain⟨σ1,h1,h2⟩:=e
   exact⟨σ1,iW hC h1,h2⟩
 | seq a b=>
   simp only[aA] at e ⊢
   split at e
   · rename_i σ1 h1;rw[h _ _ _ h1];exact h _ _ _ e
   · rename_i hn
     rw[h _ _ _ e]
     rcases x with⟨ex,σ1⟩
     cases ex with
     | normal=>exact absurd e (by simpa using hn σ1)
     | _=>rfl
 | cond c a b=>
   simp only[aA] at e ⊢
   split at e
   · exact h _ _ _ e
   · exact h _ _ _ e
   · simp at e
 | block id b=>
   simp only[aA] at e ⊢
   split at e
   · rename_i iF σ1 h1;rw[h _ _ _ h1];exact e
   · rename_i hn
     rw[h _ _ _ e]
     rcases x with⟨ex,σ1⟩
     cases ex with
     | exit iF=>exact absurd e (by simpa using hn iF σ1)
     | _=>rfl
 | loop b=>
   simp only[aA] at e ⊢
   split at e
   · rename_i σ1 h1;rw[h _ _ _ h1];exact h _ _ _ e
   · rename_i hn
     rw[h _ _ _ e]
     rcases x with⟨ex,σ1⟩
     cases ex with
     | normal=>exact absurd e (by simpa using hn σ1)
     | _=>rfl
 | exit id=>simpa [aA] using e
 | ret=>simpa [aA] using e
 | scope b=>simp only[aA] at e ⊢;exact h _ _ _ e
 | bad=>simp[aA] at e
 | iY fx ps a b=>
   simp only[aA] at e ⊢
   split at e
   · rename_i g caps hg
     try simp only[hg]
     split at e
     · rename_i xs zO
       try simp only[zO]
       split at e
       · rename_i hc
         try rw[if_pos hc]
         exact oW h e
       · simp at e
     · simp at e
   · simp at e
 | keys it nx ne id kT kO hd b l=>
   simp only[aA] at e ⊢
   split at e
   · rename_i ri g hT
     try simp only[hT]
     split at e
     · rename_i es hO
       try simp only[hO]
       split at e
       · rename_i hc
         try rw[if_pos hc]
         split at e
         · rename_i σ1 σs hr
           rw[jD (fun p y hy=>lG h hy) hr]
           exact e
         · simp at e
       · simp at e
     · simp at e
   · simp at e
theorem tE {E:Env}: ∀n,HM (exec E n) (exec E (n+1))
 | 0=>by intro c σ x e;simp[exec] at e
 | n+1=>by
   have ih:=tE (E:=E) n
   have:=mb (E:=E) (fL (E:=E) ih) ih
   intro c σ x e
   simp only[exec] at e ⊢
   exact this _ _ _ e
theorem bX {E:Env} {n m:Nat} (h:n≤m):HM (exec E n) (exec E m):=by
 induction h with
 | refl=>exact fun _ _ _ e=>e
 | step _ ih=>exact fun c σ x e=>tE _ _ _ _ (ih c σ x e)
theorem di {E:Env} {n m:Nat} (h:n≤m):Ck (call E n) (call E m):=fL (bX h)
def Ev (E:Env) (f:Nat) (args:List V) (res:eS):Prop:= ∃n,call E n f args=some res
def St.bg (σ:St) (r:Nat) (o:Obj):St:={σ with O:=cW σ.O r o}
inductive Tg {α β:Type} (a:α) (b:β):Type
 | mk
def tF (E:Env) (a:Act) (σ:St) (Q:V→St→Prop) (_:Tg σ Q:= .mk):Prop:= ∃n v σ',a.run (call E n) σ=some (v,σ')∧Q v σ'
def ET (E:Env) (os:List aX) (σ:St) (Q:St→Prop) (_:Tg os (σ,Q):= .mk):Prop:= ∃n σ',gl E (call E n) os σ=some σ'∧Q σ'
def kf (E:Env) (c:an) (σ:St) (Q:aP→St→Prop) (_:Tg c (σ,Q):= .mk):Prop:= ∃n e σ',exec E n c σ=some (e,σ')∧Q e σ'
def nj (E:Env) (a:Act) (σ:St) (Q:V→St→List Loc→List Loc→Prop) (_:Tg σ Q:= .mk):Prop:= ∃n v σ',a.run (call E n) σ=some (v,σ')∧Q v σ' (a.c9 (call E n) σ).reads (a.c9 (call E n) σ).writes
def GY (E:Env) (bE:List dt) (before:List (List Nat)) (os:List aX) (σ:St) (Q:St→Prop):Prop:= ∃n σ',c6 E (call E n) os bE before σ=some σ'∧Q σ'
section
variable {E:Env} {σ:St}
theorem np {v:V} {Q:V→St→Prop}:tF E (.done v) σ Q=Q v σ:=by
 simp only[tF,Act.run,eq_iff_iff]
 constructor
 · rintro⟨_,_,_,h,q⟩;injection h with h;injection h with h1 h2;subst h1 h2;exact q
 · exact fun q=> ⟨0,_,_,rfl,q⟩
theorem nq {Q:V→St→Prop}:tF E .fail σ Q=False:=by
 simp[tF,Act.run]
theorem q8 {t:Nat} {k:V→Act} {Q:V→St→Prop}:tF E (.ke t k) σ Q=tF E (k (σ.T t)) σ Q:=by
 simp[tF,Act.run]
theorem q9 {t:Nat} {k:Obj→Act} {Q:V→St→Prop}:tF E (.bB t k) σ Q=tF E (k (σ.O t)) σ Q:=by
 simp[tF,Act.run]
theorem ra {t:Nat} {o:Obj} {k:Act} {Q:V→St→Prop}:tF E (.bg t o k) σ Q=tF E k (σ.bg t o) Q:=by
 simp[tF,Act.run,St.bg]
theorem uN {c:Prop} [Decidable c] {a b:Act} {Q:V→St→Prop}:tF E (if c then a else b) σ Q=if c then tF E a σ Q else tF E b σ Q:=by
 split<;>rfl
theorem re {v:Option V} {Q:V→St→Prop}:tF E (cp v) σ Q=match v with| some v=>Q v σ| none=>False:=by
 cases v<;>simp[cp,np,nq]
theorem qL {Q:St→Prop}:ET E [] σ Q=Q σ:=by simp[ET,gl]
theorem nr {o:aX} {os:List aX} {Q:St→Prop}:ET E (o::os) σ Q=tF E (cX E o) σ fun v σ'=>ET E os (σ'.put o.dst v) Q:=by
 simp only[ET,tF,gl,dB,eq_iff_iff]
 constructor
 · rintro⟨n,σ2,h,q⟩
   split at h
   · rename_i σ1 h1
     split at h1
     · rename_i v σ0 h0
       injection h1 with h1;subst h1
       exact⟨n,v,σ0,h0,n,σ2,h,q⟩
     · simp at h1
   · simp at h
 · rintro⟨n,v,σ0,h0,m,σ2,h,q⟩
   refine⟨max n m,σ2,?_,q⟩
   rw[Act.fX (di (Nat.le_max_left n m)) _ _ _ h0]
   exact ko (di (Nat.le_max_right n m)) h
theorem kp {v:V} {Q:V→St→List Loc→List Loc→Prop}:nj E (.done v) σ Q=Q v σ [] []:=by
 simp only[nj,Act.run,Act.c9,eq_iff_iff]
 constructor
 · rintro⟨_,_,_,h,q⟩;injection h with h;injection h with h1 h2;subst h1 h2;exact q
 · exact fun q=> ⟨0,_,_,rfl,q⟩
theorem ns {Q:V→St→List Loc→List Loc→Prop}:nj E .fail σ Q=False:=by
 simp[nj,Act.run]
theorem nu {t:Nat} {k:V→Act} {Q:V→St→List Loc→List Loc→Prop}:nj E (.ke t k) σ Q=nj E (k (σ.T t)) σ fun v σ' r w=>Q v σ' (.t t::r) w:=by
 simp[nj,Act.run,Act.c9]
theorem kq {t:Nat} {k:Obj→Act} {Q:V→St→List Loc→List Loc→Prop}:nj E (.bB t k) σ Q=nj E (k (σ.O t)) σ fun v σ' r w=>Q v σ' (.o t::r) w:=by
 simp[nj,Act.run,Act.c9]
theorem nv {t:Nat} {o:Obj} {k:Act} {Q:V→St→List Loc→List Loc→Prop}:nj E (.bg t o k) σ Q=nj E k (σ.bg t o) fun v σ' r w=>Q v σ' r (.o t::w):=by
 simp[nj,Act.run,Act.c9,St.bg]
theorem Cl {f:Nat} {as:List V} {k:eS→Act} {Q:V→St→List Loc→List Loc→Prop}:nj E (.call f as k) σ Q= ∃res,Ev E f as res∧nj E (k res) σ Q:=by
 simp only[nj,eq_iff_iff]
 constructor
 · rintro⟨n,v,σ',h,q⟩
   simp only[Act.run,Act.c9] at h q
   split at h
   · rename_i res hr
     simp only[hr] at q
     exact⟨res,⟨n,hr⟩,n,v,σ',h,q⟩
   · simp at h
 · rintro⟨res,⟨n,hn⟩,m,v,σ',h,q⟩
   have e1:=di (E:=E) (Nat.le_max_left n m) _ _ _ hn
   have e2:=Act.fX (di (E:=E) (Nat.le_max_right n m)) _ _ _ h
   have e3:=Act.fu (di (E:=E) (Nat.le_max_right n m)) _ _ _ h
   refine⟨max n m,v,σ',?_,?_⟩
   · simp only[Act.run,e1];exact e2
   · simp only[Act.c9,e1,e3];exact q
theorem uO {c:Prop} [Decidable c] {a b:Act} {Q:V→St→List Loc→List Loc→Prop}:nj E (if c then a else b) σ Q=if c then nj E a σ Q else nj E b σ Q:=by
 split<;>rfl
theorem rf {v:Option V} {Q:V→St→List Loc→List Loc→Prop}:nj E (cp v) σ Q=match v with| some v=>Q v σ [] [] | none=>False:=by
 cases v<;>simp[cp,kp,ns]
theorem EU {bE:List dt} {before:List (List Nat)} {Q:St→Prop}:GY E bE before [] σ Q=Q σ:=by simp[GY,c6]
theorem Cm {bE:List dt} {before:List (List Nat)} {o:aX} {os:List aX} {Q:St→Prop}:
   GY E bE before (o::os) σ Q=nj E (cX E o) σ fun v σ' r w=>
     (fits bE (closure before o.pre) ⟨r,(match o.dst with| some d=> [.t d] | none=> [])++w⟩ bE.length &&o.pre.all (· <bE.length))=true∧
     GY E (bE++[⟨r,(match o.dst with| some d=> [.t d] | none=> [])++w⟩]) (before++[closure before o.pre]) os (σ'.put o.dst v) Q:=by
 have key: ∀n,c6 E (call E n) (o::os) bE before σ=if (fits bE (closure before o.pre) (cn E (call E n) o σ) bE.length &&o.pre.all (· <bE.length))=true then
     (match dB E (call E n) o σ with| some σ'=>c6 E (call E n) os (bE++[cn E (call E n) o σ]) (before++[closure before o.pre]) σ'| none=>none) else none:=fun n=>rfl
 have MS: ∀n v σ0,(cX E o).run (call E n) σ=some (v,σ0)→dB E (call E n) o σ=some (σ0.put o.dst v):=fun n v σ0 h=>by simp only[dB,h]
 simp only[GY,nj,eq_iff_iff]
 constructor
 · rintro⟨n,σ2,h,q⟩
   rw[key n] at h
   by_cases hc: (fits bE (closure before o.pre) (cn E (call E n) o σ) bE.length &&o.pre.all (· <bE.length))=true
   · rw[if_pos hc] at h
     cases h0: (cX E o).run (call E n) σ with
     | none=>simp[dB,h0] at h
     | some p=>
       obtain⟨v,σ0⟩:=p
       rw[MS n v σ0 h0] at h
       exact⟨n,v,σ0,h0,hc,n,σ2,h,q⟩
   · rw[if_neg hc] at h;simp at h
 · rintro⟨n,v,σ0,h0,hc,m,σ2,h,q⟩
   refine⟨max n m,σ2,?_,q⟩
   have e3:cn E (call E (max n m)) o σ=cn E (call E n) o σ:=by
     simp only[cn,Act.fu (di (E:=E) (Nat.le_max_left n m)) _ _ _ h0]
   have ye: (fits bE (closure before o.pre) (cn E (call E n) o σ) bE.length &&o.pre.all (· <bE.length))=true:=hc
   rw[key,e3,if_pos ye,MS _ v σ0 (Act.fX (di (Nat.le_max_left n m)) _ _ _ h0)]
   exact iW (di (Nat.le_max_right n m)) h
def andThen (Q:aP→St→Prop) (k:St→Prop) (_:Tg Q k:= .mk):aP→St→Prop
 | .normal,σ=>k σ
 | .exit id,σ=>Q (.exit id) σ
 | .ret,σ=>Q .ret σ
def rj (id:Nat) (Q:aP→St→Prop) (_:Tg id Q:= .mk):aP→St→Prop
 | .exit iF,σ=>if iF=id then Q .normal σ else Q (.exit iF) σ
 | .normal,σ=>Q .normal σ
 | .ret,σ=>Q .ret σ
theorem fY {c:an} {Q Q':aP→St→Prop} (h:kf E c σ Q) (k: ∀e σ',Q e σ'→Q' e σ'):kf E c σ Q':=by
 obtain⟨n,e,σ',h1,h2⟩:=h
 exact⟨n,e,σ',h1,k _ _ h2⟩
theorem ny {Q:aP→St→Prop}:kf E .skip σ Q=Q .normal σ:=by
 simp only[kf,eq_iff_iff]
 constructor
 · rintro⟨n,e,σ',h,q⟩
   cases n<;>simp[exec,aA] at h
   obtain⟨rfl,rfl⟩:=h;exact q
 · exact fun q=> ⟨1,_,_,by simp[exec,aA],q⟩
theorem nz {id:Nat} {Q:aP→St→Prop}:kf E (.exit id) σ Q=Q (.exit id) σ:=by
 simp only[kf,eq_iff_iff]
 constructor
 · rintro⟨n,e,σ',h,q⟩
   cases n<;>simp[exec,aA] at h
   obtain⟨rfl,rfl⟩:=h;exact q
 · exact fun q=> ⟨1,_,_,by simp[exec,aA],q⟩
theorem qM {Q:aP→St→Prop}:kf E .ret σ Q=Q .ret σ:=by
 simp only[kf,eq_iff_iff]
 constructor
 · rintro⟨n,e,σ',h,q⟩
   cases n<;>simp[exec,aA] at h
   obtain⟨rfl,rfl⟩:=h;exact q
 · exact fun q=> ⟨1,_,_,by simp[exec,aA],q⟩
theorem lH {b:an} {Q:aP→St→Prop}:kf E (.scope b) σ Q=kf E b σ Q:=by
 simp only[kf,eq_iff_iff]
 constructor
 · rintro⟨n,e,σ',h,q⟩
   cases n with
   | zero=>simp[exec] at h
   | succ n=>simp only[exec,aA] at h;exact⟨n,e,σ',h,q⟩
 · rintro⟨n,e,σ',h,q⟩
   exact⟨n+1,e,σ',by simpa only[exec,aA] using h,q⟩
theorem jE {ops:List aX} {Q:aP→St→Prop}:kf E (.region ops) σ Q=ET E ops σ (Q .normal):=by
 simp only[kf,ET,eq_iff_iff]
 constructor
 · rintro⟨n,e,σ',h,q⟩
   cases n with
   | zero=>simp[exec] at h
   | succ n=>
     simp only[exec,aA,Option.map_eq_some_iff] at h
     obtain⟨σ1,h1,h2⟩:=h
     injection h2 with h2 h3
     subst h2 h3
     exact⟨n,_,h1,q⟩
 · rintro⟨n,σ',h,q⟩
   exact⟨n+1,_,σ',by simp only[exec,aA,Option.map_eq_some_iff];exact⟨σ',h,rfl⟩,q⟩
theorem AI {ops:List aX} {Q:aP→St→Prop}:kf E (.drawn ops) σ Q=GY E [] [] ops σ (Q .normal):=by
 simp only[kf,GY,eq_iff_iff]
 constructor
 · rintro⟨n,e,σ',h,q⟩
   cases n with
   | zero=>simp[exec] at h
   | succ n=>
     simp only[exec,aA,Option.map_eq_some_iff] at h
     obtain⟨σ1,h1,h2⟩:=h
     injection h2 with h2 h3
     subst h2 h3
     exact⟨n,_,h1,q⟩
 · rintro⟨n,σ',h,q⟩
   exact⟨n+1,_,σ',by simp only[exec,aA,Option.map_eq_some_iff];exact⟨σ',h,rfl⟩,q⟩
theorem qN {a b:an} {Q:aP→St→Prop}:kf E (.seq a b) σ Q=kf E a σ (andThen Q fun σ'=>kf E b σ' Q):=by
 simp only[kf,eq_iff_iff]
 constructor
 · rintro⟨n,e,σ',h,q⟩
   cases n with
   | zero=>simp[exec] at h
   | succ n=>
     simp only[exec,aA] at h
     split at h
     · rename_i σ1 h1
       exact⟨n,_,_,h1,n,e,σ',h,q⟩
     · rename_i hn
       refine⟨n,e,σ',h,?_⟩
       cases e with
       | normal=>exact absurd h (by simpa using hn σ')
       | exit id=>exact q
       | ret=>exact q
 · rintro⟨n,e,σ1,h,q⟩
   cases e with
   | normal=>
     obtain⟨m,e,σ',h',q⟩:=q
     refine⟨max n m+1,e,σ',?_,q⟩
     simp only[exec,aA,bX (Nat.le_max_left n m) _ _ _ h]
     exact bX (Nat.le_max_right n m) _ _ _ h'
   | exit id=>exact⟨n+1,_,_,by simp only[exec,aA,h],q⟩
   | ret=>exact⟨n+1,_,_,by simp only[exec,aA,h],q⟩
theorem nA {c:aI} {a b:an} {Q:aP→St→Prop}:kf E (.cond c a b) σ Q=match aQ σ c with| .bool true=>kf E a σ Q| .bool false=>kf E b σ Q| _=>False:=by
 simp only[kf,eq_iff_iff]
 constructor
 · rintro⟨n,e,σ',h,q⟩
   cases n with
   | zero=>simp[exec] at h
   | succ n=>
     simp only[exec,aA] at h
     split at h
     · rename_i he;simp only[he];exact⟨n,e,σ',h,q⟩
     · rename_i he;simp only[he];exact⟨n,e,σ',h,q⟩
     · simp at h
 · intro h
   split at h
   · rename_i he
     obtain⟨n,e,σ',h,q⟩:=h
     exact⟨n+1,e,σ',by simp only[exec,aA,he];exact h,q⟩
   · rename_i he
     obtain⟨n,e,σ',h,q⟩:=h
     exact⟨n+1,e,σ',by simp only[exec,aA,he];exact h,q⟩
   · exact h.elim
theorem lI {id:Nat} {b:an} {Q:aP→St→Prop}:kf E (.block id b) σ Q=kf E b σ (rj id Q):=by
 simp only[kf,eq_iff_iff]
 constructor
 · rintro⟨n,e,σ',h,q⟩
   cases n with
   | zero=>simp[exec] at h
   | succ n=>
     simp only[exec,aA] at h
     split at h
     · rename_i iF σ1 h1
       refine⟨n,_,_,h1,?_⟩
       simp only[rj]
       split at h
       · rename_i hi
         simp only[Option.some.injEq,Prod.mk.injEq] at h
         obtain⟨rfl,rfl⟩:=h
         simp only[hi,if_true];exact q
       · rename_i hi
         simp only[Option.some.injEq,Prod.mk.injEq] at h
         obtain⟨rfl,rfl⟩:=h
         simp only[hi,if_false];exact q
     · rename_i hn
       refine⟨n,e,σ',h,?_⟩
       cases e with
       | exit iF=>exact absurd h (by simpa using hn iF σ')
       | normal=>exact q
       | ret=>exact q
 · rintro⟨n,e,σ1,h,q⟩
   cases e with
   | exit iF=>
     simp only[rj] at q
     by_cases hi:iF=id
     · simp only[hi,if_true] at q
       exact⟨n+1,_,_,by simp only[exec,aA,h,hi,if_true],q⟩
     · simp only[hi,if_false] at q
       exact⟨n+1,_,_,by simp only[exec,aA,h,hi,if_false],q⟩
   | normal=>exact⟨n+1,_,_,by simp only[exec,aA,h],q⟩
   | ret=>exact⟨n+1,_,_,by simp only[exec,aA,h],q⟩
theorem Cn {b:an} {Q:aP→St→Prop}:kf E (.loop b) σ Q=kf E b σ (andThen Q fun σ'=>kf E (.loop b) σ' Q):=by
 simp only[kf,eq_iff_iff]
 constructor
 · rintro⟨n,e,σ',h,q⟩
   cases n with
   | zero=>simp[exec] at h
   | succ n=>
     simp only[exec,aA] at h
     split at h
     · rename_i σ1 h1
       exact⟨n,_,_,h1,n,e,σ',h,q⟩
     · rename_i hn
       refine⟨n,e,σ',h,?_⟩
       cases e with
       | normal=>exact absurd h (by simpa using hn σ')
       | exit id=>exact q
       | ret=>exact q
 · rintro⟨n,e,σ1,h,q⟩
   cases e with
   | normal=>
     obtain⟨m,e,σ',h',q⟩:=q
     refine⟨max n m+1,e,σ',?_,q⟩
     simp only[exec,aA,bX (Nat.le_max_left n m) _ _ _ h]
     exact bX (Nat.le_max_right n m) _ _ _ h'
   | exit id=>exact⟨n+1,_,_,by simp only[exec,aA,h],q⟩
   | ret=>exact⟨n+1,_,_,by simp only[exec,aA,h],q⟩
theorem vT {b:an} {Q:aP→St→Prop} (I:Nat→St→Prop) (hI: ∀k σ,I k σ→kf E b σ (andThen Q fun σ'=> ∃j,j<k∧I j σ')):
   ∀ (k:Nat) (σ:St),I k σ→kf E (.loop b) σ Q:=by
 intro k
 induction k using Nat.strongRecOn with
 | _ k ih=>
   intro σ h
   rw[Cn]
   refine fY (hI k σ h) fun e σ' he=> ?_
   cases e with
   | normal=>obtain⟨j,hj,h'⟩:=he;exact ih j hj σ' h'
   | exit id=>exact he
   | ret=>exact he
def fin (rs:List nB) (args:List V) (res:eS):aP→St→Prop
 | .exit _,_=>False
 | .normal,σ=>leave ⟨0,0,[],rs,.skip,none⟩ args σ=some res
 | .ret,σ=>leave ⟨0,0,[],rs,.skip,none⟩ args σ=some res
theorem Ev.ext {f:Nat} {args:List V} {res:eS} (h:E.ext f args=some res) (hh:E.hyb f=none:=by rfl):Ev E f args res:=⟨0,by simp[call,cK,iX,h,hh]⟩
end
end Go.AM
namespace Go.AM
section
variable {E:Env} {σ:St}
def oX (E:Env):List aX→St→(List dt→St→Prop)→Prop
 | [],σ,Q=>Q [] σ
 | o::os,σ,Q=>nj E (cX E o) σ fun v σ' r w=>oX E os (σ'.put o.dst v) fun fs σ''=>Q (⟨r,(match o.dst with| some d=> [.t d] | none=> [])++w⟩::fs) σ''
def MT (E:Env) (os:List aX) (σ:St) (Q:List dt→St→Prop) (_:Tg os (σ,Q):= .mk):Prop:=oX E os σ Q
def oY (d:Option Nat) (w:List Loc):List Loc:=match d with| some d=> .t d::w| none=>w
theorem qO {Q:List dt→St→Prop}:MT E [] σ Q=Q [] σ:=rfl
theorem nC {o:aX} {os:List aX} {Q:List dt→St→Prop}:MT E (o::os) σ Q=nj E (cX E o) σ fun v σ' r w=>MT E os (σ'.put o.dst v) fun fs σ''=>Q (⟨r,oY o.dst w⟩::fs) σ'':=by
 have: ∀w,(match o.dst with| some d=> [Loc.t d] | none=> [])++w=oY o.dst w:=by intro w;cases o.dst<;>rfl
 have h2: (fun (v:V) (σ':St) (r w:List Loc)=>oX E os (σ'.put o.dst v) fun fs σ''=>Q (⟨r,(match o.dst with| some d=> [.t d] | none=> [])++w⟩::fs) σ'')=(fun v σ' r w=>oX E os (σ'.put o.dst v) fun fs σ''=>Q (⟨r,oY o.dst w⟩::fs) σ''):=by
  funext v σ' r w;rw[this]
 show nj E (cX E o) σ (fun (v:V) (σ':St) (r w:List Loc)=>oX E os (σ'.put o.dst v) fun fs σ''=>Q (⟨r,(match o.dst with| some d=> [.t d] | none=> [])++w⟩::fs) σ'')=_
 rw[h2];rfl
def GZ:List (List Nat)→List (List Nat)→List dt→List dt→Bool
 | [],_,_,_=>true
 | p::ps,before,bE,f::rest=> (fits bE (closure before p) f bE.length &&p.all (· <bE.length)) &&GZ ps (before++[closure before p]) (bE++[f]) rest
 | _::_,_,_,[]=>false
theorem kr {a:Act} {Q Q':V→St→List Loc→List Loc→Prop} (h:nj E a σ Q) (k: ∀v σ' r w,Q v σ' r w→Q' v σ' r w):nj E a σ Q':=by
 obtain⟨n,v,σ',h1,h2⟩:=h
 exact⟨n,v,σ',h1,k _ _ _ _ h2⟩
theorem nD: ∀ {os:List aX} {σ:St} {Q Q':List dt→St→Prop},oX E os σ Q→(∀fs σ',Q fs σ'→Q' fs σ')→oX E os σ Q'
 | [],_,_,_,h,k=>k _ _ h
 | o::os,_,_,_,h,k=>by
   simp only[oX] at h ⊢
   exact kr h fun v σ' r w h'=>nD h' fun fs σ'' YH=>k _ _ YH
theorem Co {Q:St→Prop}: ∀ {os:List aX} {σ:St} {bE:List dt} {before:List (List Nat)},
   oX E os σ (fun fs σ'=>GZ (os.map (·.pre)) before bE fs=true∧Q σ')→GY E bE before os σ Q
 | [],_,_,_,h=>by rw[EU];exact h.2
 | o::os,σ,bE,before,h=>by
   rw[Cm]
   simp only[oX,List.map_cons,GZ,Bool.and_eq_true] at h
   refine kr h fun v σ' r w h'=> ?_
   have h1:oX E os (σ'.put o.dst v) (fun fs σ''=> (fits bE (closure before o.pre) ⟨r,(match o.dst with| some d=> [.t d] | none=> [])++w⟩ bE.length &&o.pre.all (· <bE.length))=true):=
    nD h' fun fs σ'' hh=>by
      have:=hh.1
      simp only[List.map_cons,GZ,Bool.and_eq_true] at this
      simp only[Bool.and_eq_true];exact this.1
   have const: ∀ {os:List aX} {σ:St} {p:Prop},oX E os σ (fun _ _=>p)→p:=by
    intro os
    induction os with
    | nil=>intro σ p h;exact h
    | cons o os ih=>
      intro σ p h
      simp only[oX] at h
      obtain⟨n,v,σ',_,h2⟩:=h
      exact ih h2
   refine⟨const h1,Co (nD h' fun fs σ'' hh=> ⟨by have:=hh.1;simp only[List.map_cons,GZ,Bool.and_eq_true] at this;exact this.2,hh.2⟩)⟩
theorem uP {ops:List aX} {Q:aP→St→Prop} (h:MT E ops σ (fun fs σ'=>GZ (ops.map (·.pre)) [] [] fs=true∧Q .normal σ')):kf E (.drawn ops) σ Q:=by
 rw[AI];exact Co h
theorem Cp {d t:Nat} {v:V}: (σ.put (some d) v).T t=if t=d then v else σ.T t:=rfl
theorem Cq {d:Option Nat} {r:Nat} {v:V}: (σ.put d v).O r=σ.O r:=by cases d<;>rfl
theorem rk {v:V}:σ.put none v=σ:=rfl
theorem yq {r t:Nat} {o:Obj}: (σ.bg r o).T t=σ.T t:=rfl
theorem yr {r r':Nat} {o:Obj}: (σ.bg r o).O r'=if r'=r then o else σ.O r':=rfl
theorem iI {t:Nat}:aQ σ (.tmp t)=σ.T t:=rfl
theorem fM {v:V}:aQ σ (.const v)=v:=rfl
theorem fN: ∀ {cs:List V},V.al cs=true→ ∀ {x:V},x ∈ cs→x.aw=true
 | [],_,x,h=>by simp at h
 | c::cs,h,x,hx=>by
   simp only[V.al,Bool.and_eq_true] at h
   rcases List.mem_cons.1 hx with rfl| hx
   · exact h.1
   · exact fN h.2 hx
theorem mL: ∀ {cs:List V},(∀x ∈ cs,V.aw x=true)→V.al cs=true
 | [],_=>rfl
 | c::cs,h=>by
   simp only[V.al,Bool.and_eq_true]
   exact⟨h c (by simp),mL fun x hx=>h x (by simp[hx])⟩
theorem eE {args:List V} (h:V.al args=true):enter args=⟨fun t=>args.getD t da,fun _=>bj⟩:=by
 have key: ∀ (t:Nat) (a:V),args[t]? =some a→a.aw=true:=fun t a ht=>fN h (List.mem_of_getElem? ht)
 unfold enter
 congr 1
 · funext t
   cases ha:args[t]? with
   | none=>simp[List.getD,ha]
   | some a=>have:=key t a ha;simp only[List.getD,ha,Option.getD_some];cases a<;>simp_all[V.aw]
 · funext t
   cases ha:args[t]? with
   | none=>rfl
   | some a=>have:=key t a ha;cases a<;>simp_all[V.aw]
theorem gT {bk:Bool} {r:Nat} {gs:List (Nat×Nat×Nat)} {v:V} {k:V→Act} (h:v.aw=true):bQ bk r gs v k=k v:=by
 simp[bQ,h]
end
def dQ (sz jj:Nat):List V→Option eS
 | [.nils]=>some ⟨.own sz [],[]⟩
 | [.lit sz' xs]=>if sz'=sz∧xs.length≤jj then some ⟨.own sz xs,[]⟩ else none
 | _=>none
def vU:List V→Option eS
 | [.float b]=>match FloatKind.f64.format.sqrt b with
   | some r=>some ⟨.float r,[]⟩
   | none=>none
 | _=>none
theorem rp {v:V} {k:V→Act} (h:v.aw=true):rq v k=k v:=by
 cases v<;>simp_all[rq]
theorem eJ {O:Nat→Obj}: ∀ {args:List V} {i:Nat},V.al args=true→bC O i args=some []
 | [],_,_=>rfl
 | a::as,i,h=>by
   simp only[V.al,Bool.and_eq_true] at h
   have:=eJ (O:=O) (i:=i+1) h.2
   cases a<;>simp_all[bC,V.aw]
theorem jF {n:Nat} {σ:St} {v:V} (h:v.aw=true):cf n σ v=some (v,[]):=by
 simp[cf,h]
theorem oZ {sz:Nat} {v:V} (h:v.aC=true):part false 0 sz v=some v:=by
 cases v<;>simp_all[part,V.aC]
def vV (sz:Nat) (xs:List V) (v:V):Prop:=v= .lit sz xs∨v= .nils∧xs=[]
theorem vV.pure {sz:Nat} {xs:List V} {v:V} (h:vV sz xs v):v.aw=true:=by
 rcases h with rfl| ⟨rfl,_⟩ <;>rfl
theorem vV.len {sz:Nat} {xs:List V} {v:V} (h:vV sz xs v):lX v=some (.int .i64 xs.length):=by
 rcases h with rfl| ⟨rfl,rfl⟩ <;>rfl
theorem vV.lit {sz:Nat} {xs:List V}:vV sz xs (.lit sz xs):= .inl rfl
theorem vV.aC {sz:Nat} {xs:List V} {v:V} (h:vV sz xs v):v.aC=true:=by
 rcases h with rfl| ⟨rfl,_⟩ <;>rfl
def fv (sz:Nat) (v i:V):Act:=
 match v,i with
 | .sl r g off len,.int _ n=> .bB r fun o=>if 0≤n∧n<len∧o.sz=sz∧o.gen=g then .done (.ptr r g (off+n.toNat) 0) else .fail
 | .lit sz' xs,.int _ n=>if 0≤n∧sz'=sz then match xs[n.toNat]? with
    | some e=> .done (.eptr e 0)
    | none=> .fail
   else .fail
 | .litk sz' xs,.int _ n=>if 0≤n∧sz'=sz∧0 <sz then match xs[n.toNat]? with
    | some e=> .done (.epk n.toNat sz e 0)
    | none=> .fail
   else .fail
 | _,_=> .fail
theorem fP {E:Env} {sz:Nat} {x i:aI}:au E (.indexAddr sz x i)=ev x fun v=>ev i fun i=>fv sz v i:=rfl
def mM ( sz:Nat) (v:V) (l h m:Option V):Act:=
 match v with
 | .sl r g off len=> .bB r fun o=>match o.es with
   | some es=>if o.gen=g∧o.sz=sz then
      match bl 0 l,bl len h,m with
      | some l,some h,none=>if l≤h∧off+h≤es.length then .done (.sl r g (off+l) (h - l)) else .fail
      | some l,some h',some m=>match h,bl 0 (some m) with
        | some _,some m=>if l≤h'∧h'≤m∧off+m≤es.length then .done (if m=l then .nils else .any) else .fail
        | _,_=> .fail
      | _,_,_=> .fail
     else .fail
   | none=> .fail
 | v=>cp (gU sz v l h m)
theorem lJ {E:Env} {sz:Nat} {x:aI} {lo hi mx:Option aI}:au E (.slice sz x lo hi mx)=ev x fun v=>sS lo fun l=>sS hi fun h=>sS mx fun m=>mM sz v l h m:=rfl
def ru (r sz jj:Nat) (s:V) (ys:List V):Act:=
 if ys.all (aH · sz) &&decide (0 <sz) then match s with
  | .nils=>if ys.isEmpty then .done .nils else if ys.length≤jj then
      .bB r fun o=> .bg r {gen:=o.gen+1,sz,arr:=true,fz:=false,es:=some ys} (.done (.sl r (o.gen+1) 0 ys.length)) else .fail
  | .lit sz' xs=>if ys.isEmpty then .done (.lit sz' xs) else .fail
  | .sl r' g off len=> .bB r' fun o=>match o.es with
    | some es=>if o.gen=g∧o.arr=true∧o.fz=false∧o.sz=sz∧off+len≤es.length∧len+ys.length≤jj then
        if off+len+ys.length≤es.length then
             .bg r' {o with es:=some (overwrite es (off+len) ys)} (.done (.sl r' g off (len+ys.length)))
        else
             .bg r' {o with gen:=g+1,es:=some (aF es off len++ys)} (.done (.sl r' (g+1) 0 (len+ys.length)))
      else .fail
    | none=> .fail
  | _=> .fail
  else .fail
theorem jG {E:Env} {r sz jj:Nat} {s x:aI}:au E (.append r sz jj s x)=ev s fun s=>ev x fun x=>content sz x fun ys=>gF ys fun ys=>ru r sz jj s ys:=rfl
theorem o6 {ys:List V} {k:List V→Act} (h:V.al ys=true):gF ys k=k ys:=by simp[gF,h]
theorem Cr {r sz jj r' g off len:Nat} {ys:List V} (h:ys.all (aH · sz)=true) (h0:0 <sz):ru r sz jj (.sl r' g off len) ys= .bB r' fun o=>match o.es with
  | some es=>if o.gen=g∧o.arr=true∧o.fz=false∧o.sz=sz∧off+len≤es.length∧len+ys.length≤jj then
     if off+len+ys.length≤es.length then
      .bg r' {o with es:=some (overwrite es (off+len) ys)} (.done (.sl r' g off (len+ys.length)))
     else
      .bg r' {o with gen:=g+1,es:=some (aF es off len++ys)} (.done (.sl r' (g+1) 0 (len+ys.length)))
    else .fail
  | none=> .fail:=by
 simp only[ru]
 rw[h];simp[h0]
theorem gV {α:Type} (f:α→V) (l:List α) (a b:Nat):AM.aF (l.map f) a b=((l.drop a).take b).map f:=by
 simp[AM.aF,List.map_take,List.map_drop]
theorem jH {xs:List V} {n:Nat} (h:n=xs.length):AM.aF xs 0 n=xs:=by
 subst h;simp[AM.aF]
def firstIdx {α:Type} (p:α→Bool) (xs:List α):Int:=match xs.findIdx? p with
 | some i=>i
 | none=> -1
theorem dU {α:Type} {p:α→Bool} {xs:List α} {i:Nat} {x:α} (h: ∀j y,j<i→xs[j]? =some y→p y=false) (hx:xs[i]? =some x) (hp:p x=true):firstIdx p xs=i:=by
 have:xs.findIdx? p=some i:=by
  rw[List.findIdx?_eq_some_iff_getElem]
  obtain⟨hl,hv⟩:=List.getElem?_eq_some_iff.1 hx
  refine⟨hl,by rw[hv];exact hp,fun j hj=> ?_⟩
  have:=h j _ hj (List.getElem?_eq_getElem (by omega))
  simp[this]
 simp[firstIdx,this]
theorem firstIdx_none {α:Type} {p:α→Bool} {xs:List α} (h: ∀ (j:Nat) (y:α),xs[j]? =some y→p y=false):firstIdx p xs= -1:=by
 have:xs.findIdx? p=none:=by
  rw[List.findIdx?_eq_none_iff]
  intro x hx
  obtain⟨j,hj⟩:=List.mem_iff_getElem?.1 hx
  exact h j x hj
 simp[firstIdx,this]
theorem nE (a b:Int): (a==b)=decide (a=b):=by
 by_cases h:a=b
 · simp[h]
 · simp[h]
theorem uQ (a b:Int): (a !=b)= !decide (a=b):=by simp[bne,nE]
theorem wrap64 {n:Int} (h0: -9223372036854775808≤n) (h1:n≤9223372036854775807):IntKind.i64.wrap n=n:=by
 simp[IntKind.wrap,IntKind.bits,IntKind.signed]
 omega
attribute [go_sem] qN jE ny nz qM lH lI nA nr qL nC qO cX fP lJ jG au.iJ q8 q9 ra np nq re uN nu kq nv kp ns rf uO aH V.cw V.aw V.al V.isScalar V.aU rp eJ jF gT oZ Cp Cq yq yr rk oY bj andThen rj iI fM Cs da eS.mk.injEq V.int.injEq V.tuple.injEq List.cons.injEq V.bool.injEq V.str.injEq V.agg.injEq List.getD_cons_zero List.getD_cons_succ List.getD_nil List.length_cons List.length_nil List.getElem?_cons_zero List.getElem?_cons_succ List.set_cons_zero List.set_cons_succ List.take_succ_cons List.take_zero List.drop_succ_cons List.drop_zero List.take_nil List.drop_nil List.cons_append List.nil_append List.append_nil Nat.zero_add Nat.add_zero BEq.rfl Bool.true_or Bool.or_true Bool.false_or Bool.or_false Bool.and_true Bool.true_and Bool.and_false Bool.false_and Bool.and_self Bool.or_self Bool.false_eq_true Bool.true_eq_false Bool.not_true Bool.not_false Nat.lt_add_one Nat.le_refl decide_true decide_false decide_eq_true_eq if_true if_false true_and and_true and_self false_and and_false Nat.sub_zero Option.some.injEq Nat.zero_lt_one Nat.lt_irrefl ne_eq not_true_eq_false not_false_eq_true V.cells.eq_1 V.cells.eq_2 V.isAgg.eq_1 V.isAgg.eq_2 V.aC.eq_1 V.aC.eq_2 V.aC.eq_3 V.aC.eq_4 V.aC.eq_5 V.aC.eq_6 V.aC.eq_7 V.isTuple.eq_1 V.isTuple.eq_2 AM.part.eq_1 AM.part.eq_2 AM.part.eq_3 AM.part.eq_4 AM.cC.eq_1 AM.cC.eq_2 AM.cC.eq_3 AM.cC.eq_4 lX.eq_1 lX.eq_2 lX.eq_3 lX.eq_4 bl.eq_1 bl.eq_2 bl.eq_3 dE.eq_1 dE.eq_2 content.eq_1 content.eq_2 content.eq_3 content.eq_4 content.eq_5 cU.eq_1 cU.eq_2 bL.eq_1 bL.eq_2 rq.eq_1 rq.eq_2 bN.eq_1 bN.eq_2 bN.eq_3 bN.eq_4 bN.eq_5 bN.eq_6 dj.eq_1 dj.eq_2 gF.eq_1 gF.go.eq_1 gF.go.eq_2 bQ.eq_1 bQ.eq_2 du.eq_1 du.eq_2 c7.eq_1 c7.eq_2 bD.eq_1 bD.eq_2 bD.eq_3 bW.eq_1 bW.eq_2 bn.eq_1 bn.eq_2 a8.eq_1 a8.eq_2 cf.eq_1 cf.eq_2 cf.eq_3 bO.eq_1 bO.eq_2 dC.eq_1 dC.eq_2 cr.eq_1 cr.eq_2 bC.eq_1 bC.eq_2 bC.eq_3 bC.eq_4 bH.eq_1 bH.eq_2 bH.eq_3 bH.eq_4 bH.eq_5 bH.eq_6 bH.eq_7 bH.eq_8 bH.eq_9 bH.eq_10 bH.eq_11 bH.eq_12 bH.eq_13 bH.eq_14 bH.eq_15 bH.eq_16 bH.eq_17 bH.eq_18 bH.eq_19 bH.eq_20 bH.eq_21 cN.eq_1 cN.eq_2 cN.eq_3 cN.eq_4 cN.eq_5 cN.eq_6 cN.eq_7 yt.eq_1 yt.eq_2 yt.eq_3 yt.eq_4 min2.eq_1 min2.eq_2 max2.eq_1 max2.eq_2 fo.eq_1 fo.eq_2 eT.eq_1 eT.eq_2 s6.eq_1 s6.eq_2 s6.eq_3 s6.eq_4 dH.eq_1 dH.eq_2 dH.eq_3 dJ.eq_1 dJ.eq_2 dg.eq_1 dg.eq_2 ev.eq_1 ev.eq_2 tG.eq_1 tG.eq_2 sS.eq_1 sS.eq_2 fv.eq_1 fv.eq_2 fv.eq_3 cp.eq_1 cp.eq_2 leave.eq_1 distinct.eq_1 distinct.eq_2 fin.eq_1 fin.eq_2 fin.eq_3 au.eq_1 au.eq_2 au.eq_3 au.eq_4 au.eq_5 au.eq_6 au.eq_7 au.eq_8 au.eq_9 au.eq_10 au.eq_11 au.eq_12 au.eq_13 au.eq_14 au.eq_15 au.eq_16 au.eq_17 au.eq_18 au.eq_19 au.eq_20 au.eq_21 au.eq_23 au.eq_24 au.eq_26 au.eq_27 au.eq_28 au.eq_29 au.eq_30 au.eq_31 au.eq_32 au.eq_34 au.eq_35 au.eq_36 au.eq_37 au.eq_38 mM.eq_1 apart bR.eq_1 bR.eq_2 cg.eq_1 cg.eq_2 cg.eq_3 ed.eq_1 ed.eq_2 List.map_nil List.map_cons List.all_nil List.all_cons List.contains_nil List.contains_cons gU.eq_1 gU.eq_2 Option.isSome_some Option.isSome_none Option.isNone_none Option.isNone_some nE uQ bne_self_eq_false Bool.bne_true Bool.bne_false Bool.true_bne Bool.false_bne jH List.isEmpty_cons List.isEmpty_nil eq_self List.replicate_succ List.replicate_zero o6 Int.cast_ofNat_Int Int.toNat_zero Int.toNat_one Int.neg_ofNat_le_ofNat Int.natCast_nonneg Int.toNat_natCast Int.toNat_natCast_add_one Int.ofNat_lt wrap64 Int.le_refl
end Go.AM
namespace Go.AM
section
variable {α:Type}
end
end Go.AM
namespace Go.AM
def MU (tab:List (Nat×aD)) (f:Nat):Option aD:=(tab.find? (·.1==f)).map (·.2)
def G0 (tab:List (Nat× (List V→Option eS))) (f:Nat) (as:List V):Option eS:=match tab.find? (·.1==f) with
 | some p=>p.2 as
 | none=>none
structure HN where
 h: (Nat→List V→Option eS)→List V→Option eS
 mono: ∀ (C C':Nat→List V→Option eS),(∀g vs r,C g vs=some r→C' g vs=some r)→ ∀vs r,h C vs=some r→h C' vs=some r
def zP (tab:List (Nat×HN)) (f:Nat):Option ((Nat→List V→Option eS)→List V→Option eS):=(tab.find? (·.1==f)).map (·.2.h)
theorem yu (tab:List (Nat×HN)): ∀f h,zP tab f=some h→ ∀ (C C':Nat→List V→Option eS),(∀g vs r,C g vs=some r→C' g vs=some r)→ ∀vs r,h C vs=some r→h C' vs=some r:=by
 intro f h hf
 unfold zP at hf
 rw[Option.map_eq_some_iff] at hf
 obtain⟨p,_,rfl⟩:=hf
 exact p.2.mono
def Ct (tab:List (Nat× (List V→Option (List (List V))))) (g:Nat) (caps:List V):Option (List (List V)):=match tab.find? (·.1==g) with
 | some p=>p.2 caps
 | none=>none
def Mq (tab:List (Nat×aD)) (ext:List (Nat× (List V→Option eS))) (hyb:List (Nat×HN)) (iter:List (Nat× (List V→Option (List (List V))))):Env:={fn:=MU tab,ext:=G0 ext,hyb:=zP hyb,mono:=yu hyb,iter:=Ct iter}
abbrev od (d:Nat) (x:oS):aX:=⟨some d,x,none,[]⟩
abbrev ow (x:oS):aX:=⟨none,x,none,[]⟩
abbrev op (d:Nat) (x:oS) (p:List Nat):aX:=⟨some d,x,none,p⟩
abbrev rg (n:Nat):List Nat:=List.range n
abbrev ic (n:Int):aI:= .const (.int .i64 n)
abbrev fc (n:Nat):aI:= .const (.fn n [])
end Go.AM
namespace Go.AM
def gW:Nat→List V→List (List V)
 | i,p::q::rest=> [.int .i64 (i:Int),.agg (p.cells++q.cells)]::gW (i+1) (q::rest)
 | _,_=> []
def zQ:List V→Option (List (List V))
 | [.eptr (.lit 2 ps) 0]=>if ps.length< 4611686018427387904 then some (gW 0 ps) else none
 | [.eptr .nils 0]=>some []
 | _=>none
end Go.AM
namespace Go.AM
def qC (skip:Bool) (n:Int):Nat→List V→List (List V)
 | i,p::q::rest=> (if skip && (decide ((i:Int)=n - 1) || decide ((i:Int)=n)) then [] else [[p,q]])++qC skip n (i+1) (q::rest)
 | _,_=> []
def EV:V→Bool
 | .agg [_,_]=>true
 | _=>false
def vW (e n:Int):Nat→List V→Option (List (List V))
 | _,[]=>some []
 | k,.agg [.int .i64 _,.lit 2 ps,.int .i64 _,.int .i64 _]::es=>if ps.length< 4611686018427387904∧ps.all EV=true then(vW e n (k+1) es).map (qC (decide ((k:Int)=e)) n 0 ps++ ·) else none
 | _,_=>none
def Cu:List V→Option (List (List V))
 | [.eptr (.agg [.lit 4 es,_,_,_]) 0,.eptr (.agg (.int .i64 e:: .int .i64 n::_)) 0]=>if es.length< 4611686018427387904∧0≤n∧n< 4611686018427387904 then vW e n 0 es else none
 | _=>none
end Go.AM
namespace Go.AM
structure SS where
 T:List (Nat×V)
 O:List (Nat×Obj)
def lk {α:Type}:List (Nat×α)→Nat→Option α
 | [],_=>none
 | (k,v)::l,n=>bif Nat.beq k n then some v else lk l n
def SS.On (S:SS) (σ:St):Prop:=(∀t v,lk S.T t=some v→σ.T t=v)∧(∀r o,lk S.O r=some o→σ.O r=o)
def SS.put (S:SS) (d:Option Nat) (v:V):SS:=match d with
 | some d=> ⟨(d,v)::S.T,S.O⟩
 | none=>S
def SS.bg (S:SS) (r:Nat) (o:Obj):SS:=⟨S.T,(r,o)::S.O⟩
theorem jI {α:Type} {p:Nat×α} {l:List (Nat×α)} {n:Nat}:lk (p::l) n=if p.1=n then some p.2 else lk l n:=by
 obtain⟨k,v⟩:=p
 simp only[lk]
 by_cases h:k=n
 · simp[h]
 · have:Nat.beq k n=false:=by
    cases hb:Nat.beq k n with
    | false=>rfl
    | true=>exact absurd (Nat.eq_of_beq_eq_true hb) h
   simp[h,this]
theorem SS.On.put {S:SS} {σ:St} (h:S.On σ) (d:Option Nat) (v:V): (S.put d v).On (σ.put d v):=by
 cases d with
 | none=>exact h
 | some d=>
   refine⟨fun t x hx=> ?_,fun r o ho=> ?_⟩
   · simp only[SS.put,jI] at hx
     show cW σ.T d v t=x
     unfold cW
     by_cases e:d=t
     · simp only[e,if_true,Option.some.injEq] at hx ⊢;exact hx
     · rw[if_neg e] at hx;rw[if_neg (Ne.symm e)];exact h.1 t x hx
   · exact h.2 r o ho
theorem SS.On.bg {S:SS} {σ:St} (h:S.On σ) (r:Nat) (o:Obj): (S.bg r o).On (σ.bg r o):=by
 refine⟨fun t x hx=>h.1 t x hx,fun r' x hx=> ?_⟩
 simp only[SS.bg,jI] at hx
 show cW σ.O r o r'=x
 unfold cW
 by_cases e:r=r'
 · simp only[e,if_true,Option.some.injEq] at hx ⊢;exact hx
 · rw[if_neg e] at hx;rw[if_neg (Ne.symm e)];exact h.2 r' x hx
inductive aZ:Type 1 where
 | done (v:V)
 | fail
 | ke (t:Nat) (k:V→aZ)
 | bB (r:Nat) (k:Obj→aZ)
 | bg (r:Nat) (o:Obj) (k:aZ)
 | kh (r:Nat) (k:Nat→aZ)
 | call (f:Nat) (args:List V) (k:eS→aZ)
 | bA (p:Prop) (k:aZ)
 | ex (α:Type) (p:α→Prop) (k:α→aZ)
 | ite (b:Bool) (x y:aZ)
 | alt (x y:aZ)
 | all (k:Nat→aZ)
 | MV (a:Act)
def Ref:aZ→Act→Prop
 | .done v,a=>a= .done v
 | .fail,_=>True
 | .ke t k,a=> ∃k0,a= .ke t k0∧ ∀v,Ref (k v) (k0 v)
 | .bB r k,a=> ∃k0,a= .bB r k0∧ ∀o,Ref (k o) (k0 o)
 | .bg r o k,a=> ∃k0,a= .bg r o k0∧Ref k k0
 | .kh r k,a=> ∃k0,a= .bB r k0∧ ∀o:Obj,Ref (k (o.gen+1)) (k0 o)
 | .call f as k,a=> ∃k0,a= .call f as k0∧ ∀res,Ref (k res) (k0 res)
 | .bA p k,a=>p→Ref k a
 | .ex _ p k,a=> ∀x,p x→Ref (k x) a
 | .ite b x y,a=> (b=true→Ref x a)∧(b=false→Ref y a)
 | .alt x y,a=>Ref x a∧Ref y a
 | .all k,a=> ∃n,Ref (k n) a
 | .MV b,a=>a=b
structure ep (p q:Prop):Prop where
 side:p
 rest:q
inductive bd {α:Type} (p q:α→Prop):Prop
 | mk (x:α) (h:p x) (k:q x)
structure Br (b:Bool) (p q:Prop):Prop where
 yes:b=true→p
 no:b=false→q
inductive ak (E:Env) (f:Nat) (as:List V) (q:eS→Prop):Prop
 | mk (res:eS) (h:Ev E f as res) (k:q res)
theorem Br.tt {p q:Prop} (h:p):Br true p q:=⟨fun _=>h,fun h=>by cases h⟩
theorem Br.ff {p q:Prop} (h:q):Br false p q:=⟨fun h=> (by cases h),fun _=>h⟩
theorem Br.dec {c:Prop} {_:Decidable c} {p q:Prop} (h:c→p) (k: ¬c→q):Br (decide c) p q:=⟨fun e=>h (of_decide_eq_true e),fun e=>k (of_decide_eq_false e)⟩
theorem Br.UL {c:Prop} {_:Decidable c} {p q:Prop} (h: ¬c→p) (k:c→q):Br (!decide c) p q:=by
 refine⟨fun e=>h ?_,fun e=>k ?_⟩
 · simpa using e
 · simpa using e
theorem Br.t {c:Prop} {_:Decidable c} {p q:Prop} (h:c) (k:p):Br (decide c) p q:=⟨fun _=>k,fun e=>absurd h (of_decide_eq_false e)⟩
theorem Br.f {c:Prop} {_:Decidable c} {p q:Prop} (h: ¬c) (k:q):Br (decide c) p q:=⟨fun e=>absurd (of_decide_eq_true e) h,fun _=>k⟩
theorem Br.nt {c:Prop} {_:Decidable c} {p q:Prop} (h: ¬c) (k:p):Br (!decide c) p q:=⟨fun _=>k,fun e=>absurd ((by simpa using e:c)) h⟩
theorem Br.nf {c:Prop} {_:Decidable c} {p q:Prop} (h:c) (k:q):Br (!decide c) p q:=⟨fun e=>absurd h ((by simpa using e: ¬c)),fun _=>k⟩
theorem Br.bt {b:Bool} {p q:Prop} (h:b=true) (k:p):Br b p q:=⟨fun _=>k,fun e=> (by rw[h] at e;cases e)⟩
theorem Br.bf {b:Bool} {p q:Prop} (h:b=false) (k:q):Br b p q:=⟨fun e=> (by rw[h] at e;cases e),fun _=>k⟩
abbrev KK:=V→SS→List Loc→List Loc→Prop
structure UM (E:Env) (a:Act) (S:SS) (Q:KK):Prop where
 h: ∀σ,S.On σ→nj E a σ fun v σ' r w=> ∃S',S'.On σ'∧Q v S' r w
def ek (E:Env):aZ→SS→KK→Prop
 | .done v,S,Q=>Q v S [] []
 | .fail,_,_=>False
 | .ke t k,S,Q=>match lk S.T t with
   | some v=>ek E (k v) S fun v S' r w=>Q v S' (.t t::r) w
   | none=>False
 | .bB t k,S,Q=>match lk S.O t with
   | some v=>ek E (k v) S fun v S' r w=>Q v S' (.o t::r) w
   | none=>False
 | .bg t o k,S,Q=>match S with
   | ⟨T,O⟩=>ek E k ⟨T,(t,o)::O⟩ fun v S' r w=>Q v S' r (.o t::w)
 | .kh t k,S,Q=> ∀g:Nat,ek E (k g) S fun v S' r w=>Q v S' (.o t::r) w
 | .call f as k,S,Q=>ak E f as fun res=>ek E (k res) S Q
 | .bA p k,S,Q=>ep p (ek E k S Q)
 | .ex _ p k,S,Q=>bd p fun x=>ek E (k x) S Q
 | .ite b x y,S,Q=>Br b (ek E x S Q) (ek E y S Q)
 | .alt x y,S,Q=>ek E x S Q∨ek E y S Q
 | .all k,S,Q=> ∀n,ek E (k n) S Q
 | .MV a,S,Q=>UM E a S Q
theorem cq {E:Env}: ∀ {a2:aZ} {a:Act} {S:SS} {Q:KK} {σ:St},Ref a2 a→ek E a2 S Q→S.On σ→nj E a σ fun v σ' r w=> ∃S',S'.On σ'∧Q v S' r w
 | .done v,a,S,Q,σ,hr,h,ho=>by
   simp only[Ref] at hr;subst hr
   rw[kp];exact⟨S,ho,h⟩
 | .fail,_,_,_,_,_,h,_=>by simp[ek] at h
 | .ke t k,a,S,Q,σ,hr,h,ho=>by
   obtain⟨k0,rfl,hk⟩:=hr
   rw[nu]
   simp only[ek] at h
   split at h
   · rename_i v hv
     rw[ho.1 t v hv]
     exact cq (hk v) h ho
   · exact h.elim
 | .bB t k,a,S,Q,σ,hr,h,ho=>by
   obtain⟨k0,rfl,hk⟩:=hr
   rw[kq]
   simp only[ek] at h
   split at h
   · rename_i v hv
     rw[ho.2 t v hv]
     exact cq (hk v) h ho
   · exact h.elim
 | .bg t o k,a,S,Q,σ,hr,h,ho=>by
   obtain⟨k0,rfl,hk⟩:=hr
   rw[nv]
   simp only[ek] at h
   obtain⟨T,O⟩:=S
   exact cq hk h (ho.bg t o)
 | .kh t k,a,S,Q,σ,hr,h,ho=>by
   obtain⟨k0,rfl,hk⟩:=hr
   rw[kq]
   simp only[ek] at h
   exact cq (hk (σ.O t)) (h _) ho
 | .call f as k,a,S,Q,σ,hr,h,ho=>by
   obtain⟨k0,rfl,hk⟩:=hr
   rw[Cl]
   simp only[ek] at h
   obtain⟨res,he,h⟩:=h
   exact⟨res,he,cq (hk res) h ho⟩
 | .bA p k,a,S,Q,σ,hr,h,ho=>cq (hr h.1) h.2 ho
 | .ex α p k,a,S,Q,σ,hr,h,ho=>by
   simp only[ek] at h
   obtain⟨x,hx,h⟩:=h
   exact cq (hr x hx) h ho
 | .ite b x y,a,S,Q,σ,hr,h,ho=>by
   simp only[ek] at h
   simp only[Ref] at hr
   cases b with
   | true=>exact cq (hr.1 rfl) (h.1 rfl) ho
   | false=>exact cq (hr.2 rfl) (h.2 rfl) ho
 | .alt x y,a,S,Q,σ,hr,h,ho=>by
   simp only[ek] at h
   rcases h with h| h
   · exact cq hr.1 h ho
   · exact cq hr.2 h ho
 | .all k,a,S,Q,σ,hr,h,ho=>by
   obtain⟨n,hr⟩:=hr
   exact cq hr (h n) ho
 | .MV b,a,S,Q,σ,hr,h,ho=>by
   simp only[Ref] at hr
   subst hr
   exact h.h σ ho
end Go.AM
namespace Go.AM
def nth {α:Type}:List α→Nat→Option α
 | [],_=>none
 | x::_,0=>some x
 | _::l,n+1=>nth l n
theorem yw {α:Type}: ∀ (l:List α) (n:Nat),nth l n=l[n]?
 | [],_=>by simp[nth]
 | _::_,0=>by simp[nth]
 | _::l,n+1=>by simp[nth,yw l n]
def force {α:Type} {β:Type 1}:List α→(List α→β)→β
 | [],k=>k []
 | x::l,k=>force l fun l'=>k (x::l')
theorem force_eq {α:Type} {β:Type 1}: ∀ (l:List α) (k:List α→β),force l k=k l
 | [],_=>rfl
 | _::l,k=>by simp only[force,force_eq l]
def uR {α:Type}:List α→Nat→α→List α
 | [],_,_=> []
 | _::l,0,y=>y::l
 | x::l,n+1,y=>x::uR l n y
theorem qP {α:Type}: ∀ (l:List α) (n:Nat) (y:α),uR l n y=l.set n y
 | [],_,_=>by simp[uR]
 | _::_,0,_=>by simp[uR]
 | _::l,n+1,y=>by simp[uR,qP l n y]
def dK {α:Type}:List α→Nat→Bool
 | [],0=>true
 | _::l,n+1=>dK l n
 | _,_=>false
theorem gX {α:Type}: ∀ {l:List α} {n:Nat},dK l n=true→l.length=n
 | [],0,_=>rfl
 | _::l,n+1,h=>by simp only[dK] at h;simp[gX h]
 | [],_+1,h=>by simp[dK] at h
 | _::_,0,h=>by simp[dK] at h
def eK {α:Type}:List α→Nat→Bool
 | _,0=>true
 | _::l,n+1=>eK l n
 | [],_+1=>false
theorem jk {α:Type}: ∀ {l:List α} {n:Nat},eK l n=true→n≤l.length
 | _,0,_=>Nat.zero_le _
 | _::l,n+1,h=>by simp only[eK] at h;simpa using jk h
 | [],_+1,h=>by simp[eK] at h
def takeN {α:Type}:List α→Nat→List α
 | _,0=> []
 | x::l,n+1=>x::takeN l n
 | [],_+1=> []
theorem nF {α:Type}: ∀ (l:List α) (n:Nat),takeN l n=l.take n
 | _,0=>by simp[takeN]
 | _::l,n+1=>by simp[takeN,nF l n]
 | [],_+1=>by simp[takeN]
def mf {α:Type}:List α→Nat→List α
 | l,0=>l
 | _::l,n+1=>mf l n
 | [],_+1=> []
theorem nG {α:Type}: ∀ (l:List α) (n:Nat),mf l n=l.drop n
 | _,0=>by simp[mf]
 | _::l,n+1=>by simp[mf,nG l n]
 | [],_+1=>by simp[mf]
def gY (v:V) (sz:Nat):Bool:=match v with
 | .agg cs=>dK cs sz
 | v=>V.aC v &&Nat.beq sz 1
theorem gO {v:V} {sz:Nat} (h:gY v sz=true):aH v sz=true:=by
 unfold gY at h
 split at h
 · simp[aH,V.cells,V.cw,V.isAgg,gX h]
 · rename_i hn
   simp only[Bool.and_eq_true] at h
   have h1:sz=1:=Nat.eq_of_beq_eq_true h.2
   have h2:v.cells=[v]:=by cases v<;>simp_all[V.cells]
   simp[aH,V.cw,h2,h1,h.1]
def rv (agg:Bool) (off sz:Nat) (e:V):Option V:=
 match agg with
 | true=>match e with
   | .agg cs=>bif Nat.beq off 0 &&dK cs sz then some e else bif eK cs (off+sz) then some (.agg (takeN (mf cs off) sz)) else none
   | _=>none
 | false=>match e with
   | .agg cs=>nth cs off
   | v=>bif V.aC v &&Nat.beq off 0 then some v else none
theorem gZ {agg:Bool} {off sz:Nat} {e v:V} (h:rv agg off sz e=some v):AM.part agg off sz e=some v:=by
 cases agg with
 | true=>
   simp only[rv] at h
   cases e with
   | agg cs=>
     simp only at h
     cases hb: (Nat.beq off 0 &&dK cs sz) with
     | true=>
       simp only[hb,cond_true,Option.some.injEq] at h
       subst h
       simp only[Bool.and_eq_true] at hb
       have h1:off=0:=Nat.eq_of_beq_eq_true hb.1
       have h2:=gX hb.2
       simp[AM.part,h1,←h2]
     | false=>
       simp only[hb,cond_false] at h
       cases hc:eK cs (off+sz) with
       | true=>
         simp only[hc,cond_true,Option.some.injEq] at h
         subst h
         simp[AM.part,nF,nG,jk hc]
       | false=>simp[hc] at h
   | _=>simp at h
 | false=>
   simp only[rv] at h
   cases e with
   | agg cs=>simp only[yw] at h;simpa [AM.part] using h
   | _=>
     simp only[V.aC,Bool.true_and,Bool.false_and,cond_false] at h
     first
     | (simp at h;done)
     | (cases hb:Nat.beq off 0 with
        | true=>simp only[hb,cond_true] at h;have h1:=Nat.eq_of_beq_eq_true hb;simp[AM.part,h1,V.aC];simpa using h
        | false=>simp[hb] at h)
def fZ (agg:Bool) (off sz:Nat) (e v:V):Option V:=
 match agg with
 | true=>match e,v with
   | .agg cs,.agg vs=>bif dK vs sz then(bif Nat.beq off 0 &&dK cs sz then some v else bif eK cs (off+sz) then some (.agg (takeN cs off++(vs++mf cs (off+sz)))) else none) else none
   | _,_=>none
 | false=>bif V.aC v &&Nat.beq sz 1 then match e with
    | .agg cs=>bif eK cs (off+1) then some (.agg (uR cs off v)) else none
    | e=>bif V.aC e &&Nat.beq off 0 then some v else none
   else none
theorem pP {agg:Bool} {off sz:Nat} {e v x:V} (h:fZ agg off sz e v=some x):cC agg off sz e v=some x:=by
 cases agg with
 | true=>
   simp only[fZ] at h
   split at h
   · rename_i cs vs
     cases h1:dK vs sz with
     | false=>simp[h1] at h
     | true=>
       have vX:=gX h1
       simp only[h1,cond_true] at h
       cases hb: (Nat.beq off 0 &&dK cs sz) with
       | true=>
         simp only[hb,cond_true,Option.some.injEq] at h
         subst h
         simp only[Bool.and_eq_true] at hb
         have h3:off=0:=Nat.eq_of_beq_eq_true hb.1
         have h2:=gX hb.2
         subst h3
         simp[cC,vX,h2]
       | false=>
         simp only[hb,cond_false] at h
         cases hc:eK cs (off+sz) with
         | true=>
           simp only[hc,cond_true,Option.some.injEq] at h
           subst h
           simp[cC,nF,nG,jk hc,vX]
         | false=>simp[hc] at h
   · simp at h
 | false=>
   simp only[fZ] at h
   cases hb: (V.aC v &&Nat.beq sz 1) with
   | false=>simp[hb] at h
   | true=>
     simp only[hb,cond_true] at h
     simp only[Bool.and_eq_true] at hb
     have h1:sz=1:=Nat.eq_of_beq_eq_true hb.2
     split at h
     · rename_i cs
       cases hc:eK cs (off+1) with
       | false=>simp[hc] at h
       | true=>
         simp only[hc,cond_true,Option.some.injEq] at h
         subst h
         have:=jk hc
         simp[cC,hb.1,h1,qP];omega
     · rename_i hn
       cases hc: (V.aC e &&Nat.beq off 0) with
       | false=>simp[hc] at h
       | true=>
         simp only[hc,cond_true,Option.some.injEq] at h
         subst h
         simp only[Bool.and_eq_true] at hc
         have h3:off=0:=Nat.eq_of_beq_eq_true hc.2
         cases e<;>simp_all[cC,V.aC]
def hG:Option V→aZ
 | some v=> .done v
 | none=> .fail
def mg (agg:Bool) (off sz:Nat) (e:V):aZ:=
 match agg with
 | true=>match e with
   | .agg cs=>bif Nat.beq off 0 &&dK cs sz then .done e else bif eK cs (off+sz) then force (takeN (mf cs off) sz) fun l=> .done (.agg l) else .fail
   | _=> .fail
 | false=>match e with
   | .agg cs=>hG (nth cs off)
   | v=>bif V.aC v &&Nat.beq off 0 then .done v else .fail
theorem ku {agg:Bool} {off sz:Nat} {e:V}:mg agg off sz e=hG (rv agg off sz e):=by
 unfold mg rv
 cases agg with
 | true=>
   cases e with
   | agg cs=>
     simp only
     cases hb: (Nat.beq off 0 &&dK cs sz) with
     | true=>rfl
     | false=>
       simp only[cond_false]
       cases hc:eK cs (off+sz) with
       | true=>simp only[cond_true,force_eq];rfl
       | false=>rfl
   | _=>rfl
 | false=>
   cases e with
   | agg cs=>rfl
   | _=>simp only;cases hb:Nat.beq off 0 <;>simp[V.aC,hG]
def Cv (agg:Bool) (off sz:Nat) (e v:V) (k:V→aZ):aZ:=
 match agg with
 | true=>match e,v with
   | .agg cs,.agg vs=>bif dK vs sz then(bif Nat.beq off 0 &&dK cs sz then k v else bif eK cs (off+sz) then force (takeN cs off++(vs++mf cs (off+sz))) fun l=>k (.agg l) else .fail) else .fail
   | _,_=> .fail
 | false=>bif V.aC v &&Nat.beq sz 1 then match e with
    | .agg cs=>bif eK cs (off+1) then force (uR cs off v) fun l=>k (.agg l) else .fail
    | e=>bif V.aC e &&Nat.beq off 0 then k v else .fail
   else .fail
theorem EW {agg:Bool} {off sz:Nat} {e v:V} {k:V→aZ}:Cv agg off sz e v k=match fZ agg off sz e v with
   | some x=>k x
   | none=> .fail:=by
 unfold Cv fZ
 cases agg with
 | true=>
   simp only
   split
   · rename_i cs vs
     cases dK vs sz with
     | false=>rfl
     | true=>
       simp only[cond_true]
       cases (Nat.beq off 0 &&dK cs sz) with
       | true=>rfl
       | false=>
         simp only[cond_false]
         cases eK cs (off+sz) with
         | true=>simp only[cond_true,force_eq]
         | false=>rfl
   · rfl
 | false=>
   simp only
   cases (V.aC v &&Nat.beq sz 1) with
   | false=>rfl
   | true=>
     simp only[cond_true]
     split
     · rename_i cs
       cases eK cs (off+1) with
       | true=>simp only[cond_true,force_eq]
       | false=>rfl
     · cases (V.aC e &&Nat.beq off 0) <;>rfl
def dO (x:aI) (k:V→aZ):aZ:=match x with
 | .tmp t=> .ke t k
 | .const v=>k v
theorem Ref.ev {x:aI} {k:V→aZ} {k0:V→Act} (h: ∀v,Ref (k v) (k0 v)):Ref (dO x k) (AM.ev x k0):=by
 cases x with
 | tmp t=>exact⟨k0,rfl,h⟩
 | const v=>exact h v
def AJ:List aI→(List V→aZ)→aZ
 | [],k=>k []
 | x::xs,k=>dO x fun v=>AJ xs fun vs=>k (v::vs)
theorem Ref.tG: ∀ {xs:List aI} {k:List V→aZ} {k0:List V→Act},(∀v,Ref (k v) (k0 v))→Ref (AJ xs k) (AM.tG xs k0)
 | [],_,_,h=>h []
 | x::xs,_,_,h=>Ref.ev fun v=>Ref.tG fun vs=>h (v::vs)
def AK:Option aI→(Option V→aZ)→aZ
 | none,k=>k none
 | some x,k=>dO x fun v=>k (some v)
theorem Ref.sS {x:Option aI} {k:Option V→aZ} {k0:Option V→Act} (h: ∀v,Ref (k v) (k0 v)):Ref (AK x k) (AM.sS x k0):=by
 cases x with
 | none=>exact h none
 | some x=>exact Ref.ev fun v=>h (some v)
theorem Ref.cp {o o0:Option V} (h: ∀v,o=some v→o0=some v):Ref (hG o) (AM.cp o0):=by
 cases o with
 | none=>trivial
 | some v=>rw[h v rfl];exact rfl
theorem Ref.ee {o:Option V}:Ref (hG o) (AM.cp o):=Ref.cp fun _ h=>h
theorem Ref.fail {a:Act}:Ref .fail a:=trivial
theorem Ref.done {v:V}:Ref (.done v) (.done v):=rfl
def rz (c:V) (k:V→aZ):aZ:=
 match c with
 | .sl r g off len=> .bB r fun ⟨bS,eQ,cI,gm,fQ⟩=>match fQ with
   | some es=> .ex (List V) (fun ys=>aF es off len=ys) fun ys=> .bA (bS=g∧cI=true∧off+len≤es.length∧V.al ys=true) (.bg r ⟨bS,eQ,cI,true,fQ⟩ (k (.lit eQ ys)))
   | none=> .fail
 | .mp r g=> .bB r fun ⟨bS,eQ,cI,gm,fQ⟩=>match fQ with
   | some es=> .ex (List V) (fun ys=>es=ys) fun ys=> .bA (bS=g∧eQ=0∧V.al ys=true∧ys.all V.isTuple=true) (.bg r ⟨bS,eQ,cI,true,fQ⟩ (k (.mlit ys)))
   | none=> .fail
 | .own .. | .msl .. | .mptr .. | .any| .it .. => .fail
 | c=>k c
theorem Ref.bN {c:V} {k:V→aZ} {k0:V→Act} (h: ∀v,Ref (k v) (k0 v)):Ref (rz c k) (AM.bN c k0):=by
 cases c
 case sl r g off len=>
  refine⟨_,rfl,fun ⟨gen,sz,arr,fz,es⟩=> ?_⟩
  cases es with
  | none=>trivial
  | some es=>
    rintro ys rfl hc
    simp only[hc,and_self,if_true]
    refine⟨_,by simp[hc],h _⟩
 case mp r g=>
  refine⟨_,rfl,fun ⟨gen,sz,arr,fz,es⟩=> ?_⟩
  cases es with
  | none=>trivial
  | some es=>
    rintro ys rfl hc
    simp only[hc,and_self,if_true]
    refine⟨_,by simp[hc],h _⟩
 all_goals first| exact h _| trivial
def o7:List V→(List V→aZ)→aZ
 | [],k=>k []
 | c::cs,k=>rz c fun c'=>o7 cs fun cj=>k (c'::cj)
theorem Ref.dj: ∀ {cs:List V} {k:List V→aZ} {k0:List V→Act},(∀v,Ref (k v) (k0 v))→Ref (o7 cs k) (AM.dj cs k0)
 | [],_,_,h=>h []
 | _::_,_,_,h=>Ref.bN fun v=>Ref.dj fun vs=>h (v::vs)
def vY (v:V) (k:V→aZ):aZ:=
 bif V.aw v then k v else
 match v with
 | .agg cs=>o7 cs fun cj=>k (.agg cj)
 | v=>rz v k
theorem Ref.rq {v:V} {k:V→aZ} {k0:V→Act} (h: ∀v,Ref (k v) (k0 v)):Ref (vY v k) (AM.rq v k0):=by
 unfold vY AM.rq
 cases hp:V.aw v with
 | true=>simpa using h v
 | false=>
   simp only[cond_false,Bool.false_eq_true,if_false]
   cases v
   case agg cs=>exact Ref.dj fun cj=>h _
   all_goals exact Ref.bN h
def Cw (vs:List V) (k:List V→aZ):aZ:=
 .alt (.bA (V.al vs=true) (k vs)) (match vs with
  | [v]=>vY v fun v'=>k [v']
  | _=> .fail)
theorem Ref.gF {vs:List V} {k:List V→aZ} {k0:List V→Act} (h: ∀v,Ref (k v) (k0 v)):Ref (Cw vs k) (AM.gF vs k0):=by
 unfold Cw
 refine⟨?_,?_⟩
 · intro hp
   simp only[AM.gF,hp,if_true]
   exact h _
 · split
   · rename_i v
     unfold AM.gF
     by_cases hp:V.al [v]=true
     · rw[if_pos hp]
       have h1:V.aw v=true:=by simpa [V.al] using hp
       unfold vY
       simp only[h1,cond_true];exact h _
     · rw[if_neg hp]
       simp only[AM.gF.go]
       exact Ref.rq fun v'=>h _
   · trivial
end Go.AM
namespace Go.AM
def uS (f:V→(V→List Nat→aZ)→aZ):List V→(List V→List Nat→aZ)→aZ
 | [],k=>k [] []
 | c::cs,k=>f c fun c' r=>uS f cs fun cj rs=>k (c'::cj) (r++rs)
theorem Ref.mh {f:V→(V→List Nat→aZ)→aZ} {f0:V→(V→List Nat→Act)→Act} (hf: ∀c k k0,(∀v rs,Ref (k v rs) (k0 v rs))→Ref (f c k) (f0 c k0)):
  ∀ {cs:List V} {k:List V→List Nat→aZ} {k0:List V→List Nat→Act},(∀v rs,Ref (k v rs) (k0 v rs))→Ref (uS f cs k) (AM.mh f0 cs k0)
 | [],_,_,h=>h _ _
 | _::_,_,_,h=>hf _ _ _ fun v rs=>Ref.mh hf fun vs rs'=>h _ _
def fw:Nat→V→(V→List Nat→aZ)→aZ
 | 0,v,k=> .bA (V.aw v=true) (k v [])
 | d+1,v,k=>bif V.aw v then k v [] else
   match v with
   | .agg cs=>uS (fw d) cs fun cj rs=>k (.agg cj) rs
   | .fn f cs=>uS (fw d) cs fun cj rs=>k (.fn f cj) rs
   | .iface t x=>fw d x fun x' rs=>k (.iface t x') rs
   | .sl r g off len=> .bB r fun ⟨bS,eQ,cI,gm,fQ⟩=>match fQ with
     | some es=> .ex (List V) (fun ys=>aF es off len=ys) fun ys=> .bA (bS=g∧cI=true∧off+len≤es.length∧V.al ys=true) (k (.lit eQ ys) [r])
     | none=> .fail
   | .ptr r g idx off=> .bB r fun ⟨bS,eQ,cI,gm,fQ⟩=>match fQ with
     | some es=> .bA (bS=g) (match es with
       | [e]=> (match idx with| 0=>fw d e fun e' rs=>k (.eptr e' off) (r::rs) | _+1=> .fail)
       | es=> .ex V (fun e=>es[idx]? =some e) fun e=>fw d e fun e' rs=>k (.eptr e' off) (r::rs))
     | none=> .fail
   | _=> .fail
theorem Ref.dV: ∀ {d:Nat} {v:V} {k:V→List Nat→aZ} {k0:V→List Nat→Act},(∀v rs,Ref (k v rs) (k0 v rs))→Ref (fw d v k) (AM.dV d v k0)
 | 0,v,k,k0,h=>by
   intro hp
   simp only[AM.dV,hp,if_true]
   exact h _ _
 | d+1,v,k,k0,h=>by
   unfold fw AM.dV
   cases hp:V.aw v with
   | true=>simpa using h v []
   | false=>
     simp only[cond_false,Bool.false_eq_true,if_false]
     cases v
     case agg cs=>exact Ref.mh (f:=fw d) (f0:=AM.dV d) (fun c k k0 h=>Ref.dV h) fun cj rs=>h _ _
     case fn f cs=>exact Ref.mh (f:=fw d) (f0:=AM.dV d) (fun c k k0 h=>Ref.dV h) fun cj rs=>h _ _
     case iface t x=>exact Ref.dV fun x' rs=>h _ _
     case sl r g off len=>
      refine⟨_,rfl,fun ⟨gen,sz,arr,fz,es⟩=> ?_⟩
      cases es with
      | none=>trivial
      | some es=>
        rintro ys rfl hc
        try simp only at hc
        simp only[hc,and_self,if_true,qQ]
        exact h _ _
     case ptr r g idx off=>
      refine⟨_,rfl,fun ⟨gen,sz,arr,fz,es⟩=> ?_⟩
      cases es with
      | none=>trivial
      | some es=>
        intro hc
        try simp only at hc
        simp only[hc,if_true]
        split
        ·  rename_i e
           cases idx with
           | zero=>exact Ref.dV fun e' rs=>h _ _
           | succ n=>trivial
        ·  intro e he
           simp only[he]
           exact Ref.dV fun e' rs=>h _ _
     all_goals trivial
def er (   r0:Nat):List V→List (Option Nat)→Nat→(List V→List Nat→List db→aZ)→aZ
 | [],_,_,k=>k [] [] []
 | v::vs,m::ms,i,k=>
   match m with
   | some sz=>match v with
     | .nils=> .bA (0 <sz) (er r0 vs ms (i+1) fun as rs ws=>k (.msl sz [] 0 0::as) rs (⟨i,r0+i,some sz⟩::ws))
     | .sl r g off len=> .bB r fun ⟨bS,eQ,cI,gm,fQ⟩=>match fQ with
       | some es=> .bA (bS=g∧gm=false∧eQ=sz∧off+len≤es.length∧V.al es=true)
          (er r0 vs ms (i+1) fun as rs ws=>k (.msl sz es off len::as) rs (⟨i,r,none⟩::ws))
       | none=> .fail
     | .ptr r g idx off=> .bB r fun ⟨bS,eQ,cI,gm,fQ⟩=>match fQ with
       | some es=> .bA (bS=g∧gm=false∧eQ=sz∧V.al es=true)
          (er r0 vs ms (i+1) fun as rs ws=>k (.mptr sz es idx off::as) rs (⟨i,r,none⟩::ws))
       | none=> .fail
     | _=> .fail
   | none=>fw 5 v fun v' rs=>er r0 vs ms (i+1) fun as rs' ws=>k (v'::as) (rs++rs') ws
 | v::vs,[],i,k=>fw 5 v fun v' rs=>er r0 vs [] (i+1) fun as rs' ws=>k (v'::as) (rs++rs') ws
theorem Ref.cO {r0:Nat}: ∀ {vs:List V} {ms:List (Option Nat)} {i:Nat} {k:List V→List Nat→List db→aZ} {k0:List V→List Nat→List db→Act},
   (∀a b c,Ref (k a b c) (k0 a b c))→Ref (er r0 vs ms i k) (AM.cO r0 vs ms i k0)
 | [],_,_,_,_,h=>h _ _ _
 | v::vs,[],i,k,k0,h=>Ref.dV fun v' rs=>Ref.cO fun a b c=>h _ _ _
 | v::vs,none::ms,i,k,k0,h=>Ref.dV fun v' rs=>Ref.cO fun a b c=>h _ _ _
 | v::vs,some sz::ms,i,k,k0,h=>by
   unfold er AM.cO
   cases v
   case nils=>
    intro hc
    simp only[hc,if_true]
    exact Ref.cO fun a b c=>h _ _ _
   case sl r g off len=>
    refine⟨_,rfl,fun ⟨gen,sz,arr,fz,es⟩=> ?_⟩
    cases es with
    | none=>trivial
    | some es=>
      intro hc
      try simp only at hc
      simp only[hc,and_self,if_true]
      exact Ref.cO fun a b c=>h _ _ _
   case ptr r g idx off=>
    refine⟨_,rfl,fun ⟨gen,sz,arr,fz,es⟩=> ?_⟩
    cases es with
    | none=>trivial
    | some es=>
      intro hc
      try simp only at hc
      simp only[hc,and_self,if_true]
      exact Ref.cO fun a b c=>h _ _ _
   all_goals trivial
def jJ:List Nat→aZ→aZ
 | [],k=>k
 | r::rs,k=> .bB r fun ⟨bS,eQ,cI,gm,fQ⟩=> .bg r ⟨bS,eQ,cI,true,fQ⟩ (jJ rs k)
theorem Ref.bR: ∀ {rs:List Nat} {k:aZ} {k0:Act},Ref k k0→Ref (jJ rs k) (AM.bR rs k0)
 | [],_,_,h=>h
 | _::_,_,_,h=> ⟨_,rfl,fun ⟨_,_,_,_,_⟩=> ⟨_,rfl,Ref.bR h⟩⟩
def ga:List db→List (Nat×List V)→(List (Nat×Nat×Nat)→aZ)→aZ
 | [],[],k=>k []
 | ⟨i,r,fresh⟩::ws,(AL,es)::outs,k=> .bB r fun ⟨bS,eQ,cI,gm,fQ⟩=>match fresh with
   | none=> .bg r ⟨bS+AL,eQ,cI,gm,some es⟩ (ga ws outs fun gs=>k ((i,r,bS+AL)::gs))
   | some sz=> .bg r {gen:=bS+1,sz,arr:=true,fz:=false,es:=some es} (ga ws outs fun gs=>k ((i,r,bS+1)::gs))
 | _,_,_=> .fail
theorem Ref.cg: ∀ {ws:List db} {outs:List (Nat×List V)} {k:List (Nat×Nat×Nat)→aZ} {k0:List (Nat×Nat×Nat)→Act},(∀g,Ref (k g) (k0 g))→Ref (ga ws outs k) (AM.cg ws outs k0)
 | [],[],_,_,h=>h _
 | [],_::_,_,_,_=>trivial
 | _::_,[],_,_,_=>trivial
 | ⟨i,r,fresh⟩::ws,(AL,es)::outs,k,k0,h=>by
   refine⟨_,rfl,fun ⟨gen,sz,arr,fz,es'⟩=> ?_⟩
   cases fresh with
   | none=>exact⟨_,rfl,Ref.cg fun g=>h _⟩
   | some sz=>exact⟨_,rfl,Ref.cg fun g=>h _⟩
theorem Ref.bif {b:Bool} {x:aZ} {a:Act} (h:Ref x a):Ref (bif b then x else .fail) (if b=true then a else .fail):=by
 cases b with
 | true=>simpa using h
 | false=>trivial
def iK (bk:Bool) (r:Nat) (gs:List (Nat×Nat×Nat)) (c:V) (k:V→aZ):aZ:=
 match c with
 | .own sz xs=> (match bk with
   | true=> .kh r fun g=> .bg r {gen:=g,sz,arr:=true,fz:=false,es:=some xs} (k (.sl r g 0 xs.length))
   | false=>k (.lit sz xs))
 | .sl i _ off len=>match ed i gs with
   | some (r',g')=>k (.sl r' g' off len)
   | none=> .fail
 | c=>bif V.aw c then k c else .fail
theorem Ref.bD {bk:Bool} {r:Nat} {gs:List (Nat×Nat×Nat)} {c:V} {k:V→aZ} {k0:V→Act} (h: ∀v,Ref (k v) (k0 v)):Ref (iK bk r gs c k) (AM.bD bk r gs c k0):=by
 unfold iK AM.bD
 cases c
 case own sz xs=>
  cases bk with
  | true=>exact⟨_,rfl,fun o=> ⟨_,rfl,h _⟩⟩
  | false=>exact h _
 case sl i g off len=>
  simp only
  cases ed i gs with
  | none=>trivial
  | some p=>exact h _
 all_goals exact Ref.bif (h _)
def jK (bk:Bool):Nat→List (Nat×Nat×Nat)→List V→(List V→aZ)→aZ
 | _,_,[],k=>k []
 | r,gs,c::cs,k=>iK bk r gs c fun c'=>jK bk (r+1) gs cs fun cj=>k (c'::cj)
theorem Ref.bW {bk:Bool}: ∀ {cs:List V} {r:Nat} {gs:List (Nat×Nat×Nat)} {k:List V→aZ} {k0:List V→Act},(∀v,Ref (k v) (k0 v))→Ref (jK bk r gs cs k) (AM.bW bk r gs cs k0)
 | [],_,_,_,_,h=>h _
 | _::_,_,_,_,_,h=>Ref.bD fun c'=>Ref.bW fun cj=>h _
def nH (bk:Bool) (r:Nat) (gs:List (Nat×Nat×Nat)) (v:V) (k:V→aZ):aZ:=
 bif V.aw v then k v else
 match v with
 | .agg cs=>jK bk r gs cs fun cj=>k (.agg cj)
 | v=>iK bk r gs v k
theorem Ref.du {bk:Bool} {r:Nat} {gs:List (Nat×Nat×Nat)} {v:V} {k:V→aZ} {k0:V→Act} (h: ∀v,Ref (k v) (k0 v)):Ref (nH bk r gs v k) (AM.du bk r gs v k0):=by
 unfold nH AM.du
 cases hp:V.aw v with
 | true=>simpa using h v
 | false=>
   simp only[cond_false,Bool.false_eq_true,if_false]
   cases v
   case agg cs=>exact Ref.bW fun cj=>h _
   all_goals exact Ref.bD h
def o8 (bk:Bool):Nat→List (Nat×Nat×Nat)→List V→(List V→aZ)→aZ
 | _,_,[],k=>k []
 | r,gs,v::vs,k=>nH bk r gs v fun v'=>o8 bk (r+8) gs vs fun vs'=>k (v'::vs')
theorem Ref.c7 {bk:Bool}: ∀ {vs:List V} {r:Nat} {gs:List (Nat×Nat×Nat)} {k:List V→aZ} {k0:List V→Act},(∀v,Ref (k v) (k0 v))→Ref (o8 bk r gs vs k) (AM.c7 bk r gs vs k0)
 | [],_,_,_,_,h=>h _
 | _::_,_,_,_,_,h=>Ref.du fun c'=>Ref.c7 fun cj=>h _
def eF (bk:Bool) (r:Nat) (gs:List (Nat×Nat×Nat)) (v:V) (k:V→aZ):aZ:=
 bif V.aw v then k v else
 match v with
 | .tuple vs=>o8 bk r gs vs fun vs'=>k (.tuple vs')
 | v=>nH bk r gs v k
theorem Ref.bQ {bk:Bool} {r:Nat} {gs:List (Nat×Nat×Nat)} {v:V} {k:V→aZ} {k0:V→Act} (h: ∀v,Ref (k v) (k0 v)):Ref (eF bk r gs v k) (AM.bQ bk r gs v k0):=by
 unfold eF AM.bQ
 cases hp:V.aw v with
 | true=>simpa using h v
 | false=>
   simp only[cond_false,Bool.false_eq_true,if_false]
   cases v
   case tuple cs=>exact Ref.c7 fun cj=>h _
   all_goals exact Ref.du h
def dh (E:Env) (f:Nat):List (Option Nat):=match E.fn f with
 | some af=>af.rA
 | none=> []
def nI (E:Env) (r:Nat) (bk:Bool) (f:Nat) (args:List V):aZ:=
 er ( r+8) args (dh E f) 0 fun as rs ws=>
  .bA ((apart rs (ws.map (·.r)) &&distinct (ws.map (·.r)))=true) <| .call f as fun ⟨val,outs⟩=>
   match rs with
   | []=>ga ws outs fun gs=>eF bk r gs val .done
   | rs=>bif V.isScalar val &&outs.all (fun o=>V.aU o.2) then ga ws outs fun gs=>eF bk r gs val .done
     else jJ rs (ga ws outs fun gs=>eF bk r gs val .done)
theorem Ref.o9 {E:Env} {r:Nat} {bk:Bool} {f:Nat} {args:List V}:Ref (nI E r bk f args) (AM.o9 E r bk f args):=by
 unfold nI AM.o9
 refine Ref.cO fun as rs ws=> ?_
 intro hc
 simp only[hc,if_true]
 refine⟨_,rfl,fun ⟨val,outs⟩=> ?_⟩
 have UN:Ref (ga ws outs fun gs=>eF bk r gs val .done) (AM.cg ws outs fun gs=>AM.bQ bk r gs val .done):=
   Ref.cg fun gs=>Ref.bQ fun v=>rfl
 cases rs with
 | nil=>
   simp only[bR]
   split<;>exact UN
 | cons a rs=>
   simp only
   cases hb: (V.isScalar val &&outs.all fun o=>V.aU o.2) with
   | true=>simp only[cond_true,if_true];exact UN
   | false=>simp only[cond_false,Bool.false_eq_true,if_false];exact Ref.bR UN
end Go.AM
namespace Go.AM
def pb (d:Nat) (o:Option V) (k:Nat→aZ):aZ:=match o with
 | none=>k d
 | some (.int _ n)=> .bA (0≤n) (k n.toNat)
 | some _=> .fail
theorem Ref.Cx {d:Nat} {o:Option V} {k:Nat→aZ} {a:Act} (h: ∀n,bl d o=some n→Ref (k n) a):Ref (pb d o k) a:=by
 unfold pb
 split
 · exact h _ rfl
 · rename_i K n
   intro h0
   exact h _ (by simp[bl,h0])
 · trivial
def rB:List (Nat×Nat×aI)→(List (Nat×Nat×V)→aZ)→aZ
 | [],k=>k []
 | (off,sz,x)::ps,k=>dO x fun v=>rB ps fun vs=>k ((off,sz,v)::vs)
theorem Ref.dJ: ∀ {ps:List (Nat×Nat×aI)} {k:List (Nat×Nat×V)→aZ} {k0:List (Nat×Nat×V)→Act},(∀v,Ref (k v) (k0 v))→Ref (rB ps k) (AM.dJ ps k0)
 | [],_,_,h=>h _
 | (_,_,_)::_,_,_,h=>Ref.ev fun v=>Ref.dJ fun vs=>h _
def hP:List V→List (Nat×Nat×V)→Option (List V)
 | cs,[]=>some cs
 | cs,(off,sz,v)::rest=>bif gY v sz &&eK cs (off+sz) then hP (match v with
    | .agg vs=>takeN cs off++(vs++mf cs (off+sz))
    | v=>uR cs off v) rest else none
theorem mi: ∀ {ps:List (Nat×Nat×V)} {cs out:List V},hP cs ps=some out→cU cs ps=some out
 | [],cs,out,h=>h
 | (off,sz,v)::rest,cs,out,h=>by
   simp only[hP] at h
   cases hb: (gY v sz &&eK cs (off+sz)) with
   | false=>simp[hb] at h
   | true=>
     simp only[hb,cond_true] at h
     simp only[Bool.and_eq_true] at hb
     have h1:=gO hb.1
     have h2:=jk hb.2
     simp only[aH,Bool.and_eq_true,beq_iff_eq] at h1
     simp only[cU]
     rw[if_pos ⟨h1.1,h2,h1.2⟩]
     have ih:=mi h
     rw[←ih]
     congr 1
     split
     · rename_i vs
       simp[V.cells,nF,nG]
     · rename_i hn
       have h3:v.cells=[v]:=by cases v<;>simp_all[V.cells]
       have h4:sz=1:=by rw[h3] at h1;simpa using h1.1.symm
       subst h4
       rw[qP,h3]
       simp[List.set_eq_take_append_cons_drop,show off<cs.length by omega]
def nJ:List (Nat×aI)→(List (Nat×V)→aZ)→aZ
 | [],k=>k []
 | (i,x)::ps,k=>dO x fun v=>vY v fun v=>nJ ps fun vs=>k ((i,v)::vs)
theorem Ref.dg: ∀ {ps:List (Nat×aI)} {k:List (Nat×V)→aZ} {k0:List (Nat×V)→Act},(∀v,Ref (k v) (k0 v))→Ref (nJ ps k) (AM.dg ps k0)
 | [],_,_,h=>h _
 | (_,_)::_,_,_,h=>Ref.ev fun v=>Ref.rq fun v'=>Ref.dg fun vs=>h _
def lK (sz:Nat):Nat→List (Nat×V)→Option (List V)
 | _,[]=>some []
 | i,(j,v)::rest=>bif Nat.beq i j &&gY v sz then(match lK sz (i+1) rest with| some vs=>some (v::vs) | none=>none) else none
def eG (sz:Nat):List V→List (Nat×V)→Option (List V)
 | es,[]=>some es
 | es,(i,v)::rest=>bif eK es (i+1) &&gY v sz then eG sz (uR es i v) rest else none
theorem iZ {sz:Nat}: ∀ {ps:List (Nat×V)} {es out:List V},eG sz es ps=some out→bL sz es ps=some out
 | [],cs,out,h=>h
 | (i,v)::rest,es,out,h=>by
   simp only[eG] at h
   cases hb: (eK es (i+1) &&gY v sz) with
   | false=>simp[hb] at h
   | true=>
     simp only[hb,cond_true] at h
     simp only[Bool.and_eq_true] at hb
     have h1:=gO hb.2
     have h2:=jk hb.1
     simp only[bL]
     rw[if_pos ⟨by omega,h1⟩,←qP]
     exact iZ h
theorem mN {sz:Nat}: ∀ {ps:List (Nat×V)} {i:Nat} {vs pre es:List V},lK sz i ps=some vs→pre.length=i→es.length=ps.length→bL sz (pre++es) ps=some (pre++vs)
 | [],i,vs,pre,es,h,hp,he=>by
   simp only[lK,Option.some.injEq] at h
   subst h
   have:es=[]:=by simpa using he
   simp[bL,this]
 | (j,v)::rest,i,vs,pre,es,h,hp,he=>by
   simp only[lK] at h
   cases hb: (Nat.beq i j &&gY v sz) with
   | false=>simp[hb] at h
   | true=>
     simp only[hb,cond_true] at h
     simp only[Bool.and_eq_true] at hb
     have h1:=gO hb.2
     have h2:i=j:=Nat.eq_of_beq_eq_true hb.1
     subst h2
     split at h
     · rename_i vs' hv
       simp only[Option.some.injEq] at h
       subst h
       cases es with
       | nil=>simp at he
       | cons e es=>
         simp only[bL]
         rw[if_pos ⟨by simp;omega,h1⟩]
         have: (pre++e::es).set i v=(pre++[v])++es:=by
          simp[List.set_append,hp]
         rw[this,mN hv (by simp[hp]) (by simpa using he)]
         simp
     · simp at h
def kx (sz:Nat) (x:V) (k:List V→aZ):aZ:=
 match x with
 | .nils=>k []
 | .lit sz' xs=>bif Nat.beq sz' sz then k xs else .fail
 | .sl r g off len=> .bB r fun ⟨bS,eQ,cI,gm,fQ⟩=>match fQ with
   | some es=> .ex (List V) (fun ys=>aF es off len=ys) fun ys=> .bA (bS=g∧eQ=sz∧off+len≤es.length) (k ys)
   | none=> .fail
 | .str s=>bif Nat.beq sz 1 then k (s.map fun b=> .int .u8 b.toNat) else .fail
 | _=> .fail
theorem Ref.content {sz:Nat} {x:V} {k:List V→aZ} {k0:List V→Act} (h: ∀v,Ref (k v) (k0 v)):Ref (kx sz x k) (AM.content sz x k0):=by
 unfold kx AM.content
 cases x
 case nils=>exact h _
 case lit sz' xs=>
  cases hb:Nat.beq sz' sz with
  | true=>obtain rfl:=Nat.eq_of_beq_eq_true hb;simp only[if_true,hb,cond_true];exact h _
  | false=>simp only[hb,cond_false];trivial
 case str s=>
  cases hb:Nat.beq sz 1 with
  | true=>obtain rfl:=Nat.eq_of_beq_eq_true hb;simp only[if_true,hb,cond_true];exact h _
  | false=>simp only[hb,cond_false];trivial
 case sl r g off len=>
  refine⟨_,rfl,fun ⟨gen,sz,arr,fz,es⟩=> ?_⟩
  cases es with
  | none=>trivial
  | some es=>
    rintro ys rfl hc
    try simp only at hc
    simp only[hc,and_self,if_true]
    exact h _
 all_goals trivial
def uT ( r sz jj:Nat) (s:V) (ys:List V):aZ:=
 .bA (ys.all (aH · sz)=true) <| bif Nat.ble 1 sz then
 match s with
 | .nils=>match ys with
   | [y]=> .bA (1≤jj) (.kh r fun g=> .bg r {gen:=g,sz,arr:=true,fz:=false,es:=some [y]} (.done (.sl r g 0 1)))
   | ys=> .ite ys.isEmpty (.done .nils) (.bA (ys.length≤jj) (.kh r fun g=> .bg r {gen:=g,sz,arr:=true,fz:=false,es:=some ys} (.done (.sl r g 0 ys.length))))
 | .lit sz' xs=> .bA (ys=[]) (.done (.lit sz' xs))
 | .sl r' g off len=> .bB r' fun ⟨bS,eQ,cI,gm,fQ⟩=>match fQ with
   | some es=> .bA (bS=g∧cI=true∧gm=false∧eQ=sz) <| .alt
      (.bA (off=0∧es.length=len∧len+ys.length≤jj) (.all fun g'=> .bg r' {gen:=g',sz,arr:=true,fz:=false,es:=some (es++ys)} (.done (.sl r' g' 0 (len+ys.length)))))
      (.bA (off+len≤es.length∧len+ys.length≤jj) (.ite (decide (off+len+ys.length≤es.length))
        (.bg r' ⟨bS,eQ,cI,gm,some (overwrite es (off+len) ys)⟩ (.done (.sl r' g off (len+ys.length))))
        (.bg r' ⟨g+1,eQ,cI,gm,some (aF es off len++ys)⟩ (.done (.sl r' (g+1) 0 (len+ys.length))))))
   | none=> .fail
 | _=> .fail
 else .fail
theorem Ref.append {r sz jj:Nat} {s:V} {ys:List V}:Ref (uT r sz jj s ys) (ru r sz jj s ys):=by
 intro hy
 cases hb:Nat.ble 1 sz with
 | false=>simp only[cond_false];trivial
 | true=>
   have hs:0 <sz:=Nat.le_of_ble_eq_true hb
   have hg: (ys.all (aH · sz) &&decide (0 <sz))=true:=by simp only[Bool.and_eq_true,decide_eq_true_eq];exact⟨hy,hs⟩
   simp only[cond_true,ru,hg,if_true]
   cases s
   case nils=>
    simp only
    split
    · rename_i y
      intro hl
      simp only[List.isEmpty_cons,Bool.false_eq_true,if_false,List.length_cons,List.length_nil,Nat.zero_add,hl,if_true]
      exact⟨_,rfl,fun o=> ⟨_,rfl,rfl⟩⟩
    · refine⟨fun he=> ?_,fun he=> ?_⟩
      · simp only[he,if_true];exact rfl
      ·  intro hl
         simp only[he,Bool.false_eq_true,if_false,hl,if_true]
         exact⟨_,rfl,fun o=> ⟨_,rfl,rfl⟩⟩
   case lit sz' xs=>
    intro he
    simp only[he,List.isEmpty_nil,if_true];exact rfl
   case sl r' g off len=>
    refine⟨_,rfl,fun ⟨gen,sz',arr,fz,es⟩=> ?_⟩
    cases es with
    | none=>trivial
    | some es=>
      intro hc
      obtain⟨rfl,rfl,rfl,rfl⟩:=hc
      refine⟨?_,?_⟩
      ·  rintro⟨rfl,rfl,hl⟩
         simp only[Nat.zero_add,Nat.le_refl,hl,and_self,if_true]
         by_cases hn:ys=[]
         · subst hn
           refine⟨gen,?_⟩
           simp only[List.append_nil,List.length_nil,Nat.add_zero,Nat.le_refl,if_true,overwrite,List.take_length,List.drop_length]
           exact⟨_,rfl,rfl⟩
         · have hp:0 <ys.length:=List.length_pos_iff.2 hn
           refine⟨gen+1,?_⟩
           rw[if_neg (by omega)]
           simp only[aF,List.drop_zero,List.take_length]
           exact⟨_,rfl,rfl⟩
      ·  rintro⟨h1,h2⟩
         simp only[h1,h2,and_self,if_true]
         refine⟨fun hd=> ?_,fun hd=> ?_⟩
         · simp only[decide_eq_true_eq] at hd
           rw[if_pos hd]
           exact⟨_,rfl,rfl⟩
         · simp only[decide_eq_false_iff_not] at hd
           rw[if_neg hd]
           exact⟨_,rfl,rfl⟩
   all_goals trivial
def HO (op:BinOp) (x y:V):aZ:=
 match x,y with
 | .int k a,.int k' b=>
   match op with
   | .shl=> .bA (0≤b) (.done (.int k (k.wrap (a*2 ^ (min b.toNat k.bits)))))
   | .shr=> .bA (0≤b) (.done (.int k (a.fdiv (2 ^ (min b.toNat k.bits)))))
   | .quo=> .bA (k=k'∧b≠0) (.done (.int k (k.wrap (a.tdiv b))))
   | .rem=> .bA (k=k'∧b≠0) (.done (.int k (a.tmod b)))
   | .and=> .bA (k=k') (hG (iL .and k a b))
   | .or=> .bA (k=k') (hG (iL .or k a b))
   | .xor=> .bA (k=k') (hG (iL .xor k a b))
   | .andNot=> .bA (k=k') (hG (iL .andNot k a b))
   | .add=>bif decide (k=k') then .done (.int k (k.wrap (a+b))) else .fail
   | .sub=>bif decide (k=k') then .done (.int k (k.wrap (a - b))) else .fail
   | .mul=>bif decide (k=k') then .done (.int k (k.wrap (a*b))) else .fail
   | .eql=>bif decide (k=k') then .done (.bool (decide (a=b))) else .fail
   | .neq=>bif decide (k=k') then .done (.bool (!decide (a=b))) else .fail
   | .lss=>bif decide (k=k') then .done (.bool (decide (a<b))) else .fail
   | .leq=>bif decide (k=k') then .done (.bool (decide (a≤b))) else .fail
   | .gtr=>bif decide (k=k') then .done (.bool (decide (b<a))) else .fail
   | .geq=>bif decide (k=k') then .done (.bool (decide (b≤a))) else .fail
 | .str a,.str b=>
   match op with
   | .add=> .bA (a.length+b.length≤9223372036854775807) (.done (.str (a++b)))
   | .eql=> .done (.bool (decide (a=b)))
   | .neq=> .done (.bool (!decide (a=b)))
   | .lss=> .done (.bool (Op.bytesLess a b))
   | .leq=> .done (.bool (Op.bytesLess a b || decide (a=b)))
   | .gtr=> .done (.bool (!(Op.bytesLess a b || decide (a=b))))
   | .geq=> .done (.bool (!Op.bytesLess a b))
   | _=> .fail
 | _,_=> .fail
theorem Ref.Cy {b:Bool} {x:aZ} {a:Act} (h:b=true→Ref x a):Ref (bif b then x else .fail) a:=by
 cases b with
 | true=>simpa using h rfl
 | false=>trivial
theorem Ref.bin {op:BinOp} {x y:V}:Ref (HO op x y) (AM.cp (bH op x y)):=by
 unfold HO
 split
 · rename_i k a k' b
   split
   case h_1=>intro h;simp[bH,show ¬b< 0 by omega,AM.cp,Ref]
   case h_2=>intro h;simp[bH,show ¬b< 0 by omega,AM.cp,Ref]
   case h_3=>intro h;simp[bH,h.1,h.2,AM.cp,Ref]
   case h_4=>intro h;simp[bH,h.1,h.2,AM.cp,Ref]
   case h_5=>intro h;simp only[bH,h,if_true];exact Ref.ee
   case h_6=>intro h;simp only[bH,h,if_true];exact Ref.ee
   case h_7=>intro h;simp only[bH,h,if_true];exact Ref.ee
   case h_8=>intro h;simp only[bH,h,if_true];exact Ref.ee
   all_goals exact Ref.Cy fun h=>by simp only[decide_eq_true_eq] at h;simp[bH,h,AM.cp,Ref,cN,nE,bne]
 · rename_i a b
   split
   case h_1=>intro h;simp[bH,h,AM.cp,Ref]
   case h_8=>trivial
   all_goals simp[bH,AM.cp,Ref]
 · trivial
def HP (neg:Bool) (a b:V):aZ:=
 match a,b with
 | .nilp,.nilp=> .done (.bool (true !=neg))
 | .nilp,.eptr .. | .nilp,.epk .. | .eptr ..,.nilp| .epk ..,.nilp=> .done (.bool (false !=neg))
 | .epk i z _ 0,.epk i' z' _ 0=> .bA (z=z'∧0 <z) (.done (.bool ((i==i') !=neg)))
 | _,_=> .fail
theorem Ref.HQ {neg:Bool} {a b:V}:Ref (HP neg a b) (AM.cp ((zR a b).map fun c=> .bool (c !=neg))):=by
 unfold HP
 split
 all_goals first| exact rfl| trivial| skip
 intro h
 obtain⟨rfl,hz⟩:=h
 simp only[zR,hz,and_self,if_true,Option.map_some]
 exact rfl
def HR (sz:Nat) (v i:V):aZ:=
 match v,i with
 | .sl r g off len,.int _ n=> .bB r fun ⟨bS,eQ,cI,gm,fQ⟩=> .bA (0≤n∧n<len∧eQ=sz∧bS=g) (match off with
   | 0=> .done (.ptr r g n.toNat 0)
   | off=> .done (.ptr r g (off+n.toNat) 0))
 | .lit sz' xs,.int _ n=> .bA (0≤n∧sz'=sz) (.ex V (fun e=>xs[n.toNat]? =some e) fun e=> .done (.eptr e 0))
 | .litk sz' xs,.int _ n=> .bA (0≤n∧sz'=sz∧0 <sz) (.ex V (fun e=>xs[n.toNat]? =some e) fun e=> .done (.epk n.toNat sz e 0))
 | _,_=> .fail
theorem Ref.idx {sz:Nat} {v i:V}:Ref (HR sz v i) (fv sz v i):=by
 unfold HR
 split
 · refine⟨_,rfl,fun ⟨gen,sz',arr,fz,es⟩=> ?_⟩
   intro h
   try simp only at h
   simp only[h,and_self,if_true]
   split
   · simp[Ref]
   · exact rfl
 · intro h e he
   simp only[fv,h,and_self,if_true,he]
   exact rfl
 · intro h e he
   obtain⟨h1,rfl,h3⟩:=h
   simp only[fv,h1,h3,and_self,if_true,he]
   exact rfl
 · trivial
def HS (sz:Nat) (v:V) (l h m:Option V):aZ:=
 match m with
 | some mx=> (match v,h with
   | .sl r g off len,some hv=> .bB r fun ⟨bS,eQ,cI,gm,fQ⟩=>match fQ with
     | some es=> .bA (bS=g∧eQ=sz) <| pb 0 l fun l=>pb len (some hv) fun h=>pb 0 (some mx) fun m=> .bA (l≤h∧h≤m∧off+m≤es.length∧m≠l) (.done .any)
     | none=> .fail
   | _,_=> .fail)
 | none=>match v with
   | .sl r g off len=> .bB r fun ⟨bS,eQ,cI,gm,fQ⟩=>match fQ with
     | some es=> .bA (bS=g∧eQ=sz) <| pb 0 l fun l=>pb len h fun h=> .bA (l≤h∧off+h≤es.length) (.done (.sl r g (off+l) (h - l)))
     | none=> .fail
   | .lit sz' xs=> .bA (sz'=sz) <| pb 0 l fun l=>pb xs.length h fun h=> .bA (l≤h∧h≤xs.length) (.ex (List V) (fun ys=>aF xs l (h - l)=ys) fun ys=> .done (.lit sz ys))
   | .nils=>pb 0 l fun l=>pb 0 h fun h=> .bA (l≤h∧h≤0) (.done .nils)
   | _=> .fail
theorem Ref.YI {sz:Nat} {v:V} {l h m:Option V}:Ref (HS sz v l h m) (mM sz v l h m):=by
 unfold HS
 split
 · split
   · rename_i mx _ _ r g off len hv
     refine⟨_,rfl,fun ⟨gen,sz',arr,fz,es⟩=> ?_⟩
     cases es with
     | none=>trivial
     | some es=>
       intro hc
       try simp only at hc
       simp only[hc,and_self,if_true]
       refine Ref.Cx fun l' hl=>Ref.Cx fun h' hh=>Ref.Cx fun m' hm=> ?_
       intro hk
       simp only[hl,hh,hm,hk,and_self,if_true,if_false]
       exact rfl
   · trivial
 · split
   · rename_i r g off len
     refine⟨_,rfl,fun ⟨gen,sz',arr,fz,es⟩=> ?_⟩
     cases es with
     | none=>trivial
     | some es=>
       intro hc
       try simp only at hc
       simp only[hc,and_self,if_true]
       refine Ref.Cx fun l' hl=>Ref.Cx fun h' hh=> ?_
       intro hk
       simp only[hl,hh,hk,and_self,if_true]
       exact rfl
   · rename_i sz' xs
     intro hc
     refine Ref.Cx fun l' hl=>Ref.Cx fun h' hh=> ?_
     rintro hk ys rfl
     simp only[mM,gU,hc,if_true,hl,hh,hk,and_self,AM.cp]
     exact rfl
   · refine Ref.Cx fun l' hl=>Ref.Cx fun h' hh=> ?_
     intro hk
     have h1:bl 0 none=some 0:=rfl
     simp only[mM,gU,hl,hh,h1,hk.1,hk.2,Option.isNone_none,AM.cp,Nat.le_refl,and_self,or_true,if_true]
     exact rfl
   · trivial
def pc (x:V) (lo hi:Option V):aZ:=
 match x with
 | .str s=>pb 0 lo fun l=>pb s.length hi fun h=> .bA (l≤h∧h≤s.length) (.done (.str ((s.drop l).take (h - l))))
 | _=> .fail
theorem Ref.ia {x:V} {l h:Option V}:Ref (pc x l h) (AM.cp (dE x l h)):=by
 unfold pc
 split
 · refine Ref.Cx fun l' hl=>Ref.Cx fun h' hh=> ?_
   intro hk
   simp only[dE,hl,hh,hk,and_self,if_true,AM.cp]
   exact rfl
 · trivial
def uU (agg:Bool) (sz r g idx off:Nat) (v:V):aZ:=
 .bB r fun ⟨bS,eQ,cI,gm,fQ⟩=>match fQ with
  | some es=> .bA (bS=g∧gm=false) <| (match cI with
    | true=> .ex V (fun e=>es[idx]? =some e) fun e=>Cv agg off sz e v fun e'=> .bg r ⟨bS,eQ,cI,gm,some (es.set idx e')⟩ (.done (.tuple []))
    | false=>match es,idx with
      | [e],0=>Cv agg off sz e v fun e'=> .bg r ⟨bS,eQ,cI,gm,some [e']⟩ (.done (.tuple []))
      | es,idx=> .ex V (fun e=>es[idx]? =some e) fun e=>Cv agg off sz e v fun e'=> .bg r ⟨bS,eQ,cI,gm,some (es.set idx e')⟩ (.done (.tuple [])))
  | none=> .fail
theorem Ref.iJ {agg:Bool} {sz r g idx off:Nat} {v:V}:Ref (uU agg sz r g idx off v) (au.iJ agg sz r g idx off v):=by
 unfold uU au.iJ
 simp only[EW]
 refine⟨_,rfl,fun ⟨gen,sz',arr,fz,es⟩=> ?_⟩
 cases es with
 | none=>trivial
 | some es=>
   intro hc
   try simp only at hc
   simp only[hc,and_self,if_true]
   have AN:Ref (.ex V (fun e=>es[idx]? =some e) fun e=>match fZ agg off sz e v with
       | some e'=> .bg r ⟨gen,sz',arr,fz,some (es.set idx e')⟩ (.done (.tuple []))
       | none=> .fail) (match es[idx]? with
         | some e=>match cC agg off sz e v with
           | some e'=> .bg r {gen:=gen,sz:=sz',arr:=arr,fz:=fz,es:=some (es.set idx e')} (.done (.tuple []))
           | none=> .fail
         | none=> .fail):=by
     intro e he
     simp only[he]
     cases hp:fZ agg off sz e v with
     | none=>trivial
     | some e'=>simp only[pP hp];exact⟨_,rfl,rfl⟩
   rw[hc.1,hc.2] at AN
   cases arr with
   | true=>exact AN
   | false=>
     simp only
     split
     · rename_i e
       simp only[List.getElem?_cons_zero]
       cases hp:fZ agg off sz e v with
       | none=>trivial
       | some e'=>simp only[pP hp];exact⟨_,rfl,rfl⟩
     · exact AN
def pd:List (Nat×aI)→(List (Nat×V)→aZ)→aZ
 | [],k=>k []
 | (i,x)::ps,k=>dO x fun v=>pd ps fun vs=>k ((i,v)::vs)
theorem Ref.gg: ∀ {ps:List (Nat×aI)} {k:List (Nat×V)→aZ} {k0:List (Nat×V)→Act},(∀v,Ref (k v) (k0 v))→Ref (pd ps k) (AM.gg ps k0)
 | [],_,_,h=>h _
 | (i,x)::ps,_,_,h=>Ref.ev fun v=>Ref.gg fun vs=>h _
def yx (r sz:Nat) (zero:V) (n:Nat) (ps:List (Nat×V)):aZ:=
 bif gY zero sz &&Nat.ble 1 sz &&Nat.ble (n*sz) 16777216 then(match (bif dK ps n then lK sz 0 ps else none) with
  | some es=> .kh r fun g=> .bg r {gen:=g,sz,arr:=true,fz:=false,es:=some es} (.done (.sl r g 0 n))
  | none=>match eG sz (List.replicate n zero) ps with
    | some es=> .kh r fun g=> .bg r {gen:=g,sz,arr:=true,fz:=false,es:=some es} (.done (.sl r g 0 n))
    | none=> .fail) else .fail
def Uc (E:Env):oS→aZ
 | .move x=>dO x .done
 | .pick c a b=>dO c fun| .bool c=> .ite c (dO a .done) (dO b .done) | _=> .fail
 | .new r sz x=>dO x fun v=>bif gY v sz &&Nat.ble 1 sz then .kh r fun g=> .bg r {gen:=g,sz,arr:=false,fz:=false,es:=some [v]} (.done (.ptr r g 0 0)) else .fail
 | .build cells parts=>rB parts fun ps=>match hP cells ps with
   | some cs=>force cs fun cs=> .done (.agg cs)
   | none=> .fail
 | .buildSlice r sz zero n parts=>nJ parts fun ps=>bif gY zero sz &&Nat.ble 1 sz &&Nat.ble (n*sz) 16777216 then(match (bif dK ps n then lK sz 0 ps else none) with
   | some es=> .kh r fun g=> .bg r {gen:=g,sz,arr:=true,fz:=false,es:=some es} (.done (.sl r g 0 n))
   | none=>match eG sz (List.replicate n zero) ps with
     | some es=> .kh r fun g=> .bg r {gen:=g,sz,arr:=true,fz:=false,es:=some es} (.done (.sl r g 0 n))
     | none=> .fail) else .fail
 | .b7 r sz=>bif Nat.ble 1 sz then .kh r fun g=> .bg r {gen:=g,sz,arr:=true,fz:=false,es:=some []} (.done (.sl r g 0 0)) else .fail
 | .nk r x=>dO x fun
   | .sl r1 g off len=>bif Nat.beq r1 r then .done (.sl r1 g off len) else .bB r1 fun ⟨bS,eQ,cI,gm,fQ⟩=> .bA (bS=g) (.kh r fun g'=>
       .bg r ⟨g',eQ,cI,gm,fQ⟩ (.bg r1 ⟨bS+1,eQ,cI,gm,none⟩ (.done (.sl r g' off len))))
   | v=> .done v
 | .makeSlice r sz bytes zero len cap=>dO len fun l=>dO cap fun c=>match l,c with
   | .int _ n,.int _ m=> .bA (0≤n∧n≤m∧m*bytes≤140737488355328∧aH zero sz=true∧0 <sz∧m≤9223372036854775807)
       (.kh r fun g=> .bg r {gen:=g,sz,arr:=true,fz:=false,es:=some (List.replicate m.toNat zero)} (.done (.sl r g 0 n.toNat)))
   | _,_=> .fail
 | .load agg sz x=>dO x fun
   | .ptr r g idx off=> .bB r fun ⟨bS,eQ,cI,gm,fQ⟩=>match fQ with
     | some es=> .bA (bS=g) (match cI with
       | true=> .ex V (fun e=>es[idx]? =some e) fun e=>mg agg off sz e
       | false=>match es,idx with
         | [e],0=>mg agg off sz e
         | es,idx=> .ex V (fun e=>es[idx]? =some e) fun e=>mg agg off sz e)
     | none=> .fail
   | .eptr e off=>mg agg off sz e
   | .epk _ _ e off=>mg agg off sz e
   | _=> .fail
 | .store agg sz x v=>dO x fun
   | .ptr r g idx off=> .bB r fun ⟨bS,eQ,cI,gm,fQ⟩=>match cI with
     | true=>dO v fun v=>vY v fun v=>uU agg sz r g idx off v
     | false=>dO v fun v=>uU agg sz r g idx off v
   | _=> .fail
 | .nilCheck x=>dO x fun
   | .ptr r g idx off=> .done (.ptr r g idx off)
   | .eptr e off=> .done (.eptr e off)
   | .epk i z e off=> .done (.epk i z e off)
   | .fn f caps=> .done (.fn f caps)
   | _=> .fail
 | .bin op x y=>dO x fun a=>dO y fun b=>HO op a b
 | .MW neg x y=>dO x fun a=>dO y fun b=>match a,b with
   | .bool a,.bool b=> .done (.bool ((a==b) !=neg))
   | _,_=> .fail
 | .yy neg ks x y=>dO x fun a=>dO y fun b=>match a,b with
   | .agg as,.agg bs=>match dH ks as bs with
       | some b=> .done (.bool (b !=neg))
       | none=> .fail
   | _,_=> .fail
 | .un op x=>dO x fun a=>hG (yt op a)
 | .c8 k x=>dO x fun| .int _ n=> .done (.int k (k.wrap n)) | _=> .fail
 | .pf x=>dO x fun| .int _ n=> .done (.float (FloatKind.f64.nearest n)) | _=> .fail
 | .pg k x=>dO x fun
   | .float b=> .ex Int (fun n=> (FloatKind.f64.decode b).toInt .zero=some n∧k.min≤n∧n≤k.max) fun n=> .done (.int k n)
   | _=> .fail
 | .nK x=>dO x fun| .str s=> .done (.str s) | _=> .fail
 | .gG t x=>dO x fun v=> .done (.iface t v)
 | .assert t ok zero x=>dO x fun
   | .nili=>match ok with| true=> .done (.tuple [zero,.bool false]) | false=> .fail
   | .iface t' v=>bif Nat.beq t' t then(match ok with| true=> .done (.tuple [v,.bool true]) | false=> .done v) else(match ok with| true=> .done (.tuple [zero,.bool false]) | false=> .fail)
   | _=> .fail
 | .fy f caps=>AJ caps fun vs=> .done (.fn f vs)
 | .ia x lo hi=>dO x fun v=>AK lo fun l=>AK hi fun h=>pc v l h
 | .slice sz x lo hi mx=>dO x fun v=>AK lo fun l=>AK hi fun h=>AK mx fun m=>HS sz v l h m
 | .fieldAddr off x=>dO x fun
   | .ptr r g idx o=> .done (.ptr r g idx (o+off))
   | .eptr e o=> .done (.eptr e (o+off))
   | .epk i z e o=> .done (.epk i z e (o+off))
   | _=> .fail
 | .field agg off sz x=>dO x fun
   | .agg cs=>mg agg off sz (.agg cs)
   | _=> .fail
 | .indexAddr sz x i=>dO x fun v=>dO i fun i=>HR sz v i
 | .aW n sz x i=>dO x fun v=>dO i fun i=>match v,i with
   | .ptr r g idx off,.int _ j=> .bA (0≤j∧j<n) (.done (.ptr r g idx (off+j.toNat*sz)))
   | .eptr e off,.int _ j=> .bA (0≤j∧j<n) (.done (.eptr e (off+j.toNat*sz)))
   | _,_=> .fail
 | .ib x i=>dO x fun v=>dO i fun i=>match v,i with
   | .str s,.int _ n=> .bA (0≤n) (.ex UInt8 (fun b=>s[n.toNat]? =some b) fun b=> .done (.int .u8 b.toNat))
   | _,_=> .fail
 | .ky agg n sz x i=>dO x fun v=>dO i fun i=>match i with
   | .int _ j=> .bA (0≤j∧j<n∧v.isAgg=true) (.ex V (fun e=>part agg (j.toNat*sz) sz v=some e) fun e=> .done e)
   | _=> .fail
 | .len x=>dO x fun v=>hG (lX v)
 | .rC x=>dO x fun| .str s=> .done (.int .i64 s.length) | _=> .fail
 | .min xs=>AJ xs fun vs=>hG (fo min2 vs)
 | .max xs=>AJ xs fun vs=>hG (fo max2 vs)
 | .append r sz jj s x=>dO s fun s=>dO x fun x=>kx sz x fun ys=>Cw ys fun ys=>uT r sz jj s ys
 | .copy sz d s=>dO d fun d=>dO s fun s=>kx sz s fun ys=>match d with
   | .nils=> .done (.int .i64 0)
   | .sl r g off len=> .bB r fun ⟨bS,eQ,cI,gm,fQ⟩=>match fQ with
     | some es=>
       .bA (bS=g∧cI=true∧gm=false∧eQ=sz∧off+len≤es.length∧(ys.take len).all (aH · sz)=true)
         (.bg r ⟨bS,eQ,cI,gm,some (overwrite es off (ys.take len))⟩ (.done (.int .i64 (ys.take len).length)))
     | none=> .fail
   | _=> .fail
 | .clear sz zero x=>dO x fun
   | .nils=> .done (.tuple [])
   | .sl r g off len=> .bB r fun ⟨bS,eQ,cI,gm,fQ⟩=>match fQ with
     | some es=> .bA (bS=g∧cI=true∧gm=false∧eQ=sz∧off+len≤es.length∧aH zero sz=true)
         (.bg r ⟨bS,eQ,cI,gm,some (overwrite es off (List.replicate len zero))⟩ (.done (.tuple [])))
     | none=> .fail
   | _=> .fail
 | .extract x i=>dO x fun
   | .tuple vs=>hG (nth vs i)
   | _=> .fail
 | .call r bk f args=>dO f fun
   | .fn f caps=>AJ args fun as=>nI E r bk f (as++caps)
   | _=> .fail
 | .gh i r sz zero n parts=>dO (.tmp i) fun
   | .int _ j=>nJ parts fun ps=>yx (r+16*j.toNat) sz zero n ps
   | _=> .fail
 | .gi r sz zero n parts=>pd parts fun ps=>yx r sz zero n ps
 | .nL r sz jj s x=>dO s fun s=>dO x fun x=>kx sz x fun ys=>uT r sz jj s ys
 | .deep x=>dO x fun v=> .MV (uV v)
 | .rD ks agg sz x=>dO x fun
   | .ptr r g idx off=> .bB r fun ⟨bS,eQ,cI,gm,fQ⟩=>match fQ with
     | some es=> .bA (bS=g) (match es,idx with
       | [e],0=>hG ((rv agg off sz e).map (yf ks))
       | _,_=> .fail)
     | none=> .fail
   | _=> .fail
 | .mkMap r=> .kh r fun g=> .bg r {gen:=g,sz:=0,arr:=false,fz:=false,es:=some []} (.done (.mp r g))
 | .ph q x k v=>dO x fun
   | .mp r g=>dO k fun k=>dO v fun v=>vY v fun v=> .bB r fun ⟨bS,eQ,cI,gm,fQ⟩=>match fQ with
     | some es=> .bA (bS=g∧eQ=0∧gm=false∧isKey q k=true∧v.cw=true) (.ex (List V) (fun es'=>kz k v es=some es') fun es'=>
         .bg r ⟨bS,eQ,cI,gm,some es'⟩ (.done (.tuple [])))
     | none=> .fail
   | _=> .fail
 | .rE q ok zero x k=>dO x fun x=>dO k fun k=> .bA (isKey q k=true) (match x with
   | .mp r g=> .bB r fun ⟨bS,eQ,cI,gm,fQ⟩=>match fQ with
     | some es=> .bA (bS=g∧eQ=0) (.ex V (fun v=>gH ok zero es k= .done v) fun v=> .done v)
     | none=> .fail
   | .mlit es=> .ex V (fun v=>gH ok zero es k= .done v) fun v=> .done v
   | _=> .fail)
 | .uW x=>dO x fun v=> (match v with
   | .fn .. =>fw 5 v fun v' rs=>jJ rs (.done v')
   | _=>vY v .done)
 | .nM r x=>dO x fun
   | .str s=> .kh r fun g=> .bg r {gen:=g,sz:=0,arr:=false,fz:=false,es:=some [.str s,.int .i64 0]} (.done (.it r g))
   | _=> .fail
 | .nN x=>  dO x fun
   | .it r g=> .bB r fun ⟨bS,eQ,cI,gm,fQ⟩=>match fQ with
     | some [.str s,.int .i64 p]=> .bA (bS=g∧eQ=0∧gm=false) (.ite (decide (p.toNat<s.length))
         (.bg r ⟨bS,eQ,cI,gm,some [.str s,.int .i64 ((p.toNat+(Utf8.decode ⟨s.toArray⟩ p.toNat).2:Nat):Int)]⟩
           (.done (.tuple [.bool true,.int .i64 (p.toNat:Int),.int .i32 ((Utf8.decode ⟨s.toArray⟩ p.toNat).1:Int)])))
         (.done (.tuple [.bool false])))
     | _=> .fail
   | _=> .fail
 | .MX neg ks x y=>dO x fun a=>dO y fun b=>match a,b with
   | .iface t p,.iface t' q=>bif Nat.beq t t' then(match mO t ks with
       | some k=> (match s6 k p q with
         | some b=> .done (.bool (b !=neg))
         | none=> .fail)
       | none=> .fail) else .fail
   | .nili,.iface _ _=> .done (.bool neg)
   | .iface _ _,.nili=> .done (.bool neg)
   | _,_=> .fail
 | .HQ neg x y=>dO x fun a=>dO y fun b=>HP neg a b
 | .mapIter r x=>dO x fun
   | .mlit es=> .kh r fun g=> .bg r {gen:=g,sz:=0,arr:=false,fz:=false,es:=some [.mlit es]} (.done (.it r g))
   | _=> .fail
 | .bad=> .fail
theorem Ref.G1 {r sz:Nat} {zero:V} {n:Nat} {ps:List (Nat×V)}:Ref (yx r sz zero n ps) (match bL sz (List.replicate n zero) ps with
   | some es=>if aH zero sz &&decide (0 <sz∧n*sz≤16777216) then AM.Act.bB r fun o=>AM.Act.bg r {gen:=o.gen+1,sz,arr:=true,fz:=false,es:=some es} (.done (.sl r (o.gen+1) 0 n)) else AM.Act.fail
   | none=>AM.Act.fail):=by
 refine Ref.Cy fun h=> ?_
 simp only[Bool.and_eq_true] at h
 have h1:=gO h.1.1
 have h2:0 <sz:=Nat.le_of_ble_eq_true h.1.2
 have h3:n*sz≤16777216:=Nat.le_of_ble_eq_true h.2
 split
 · rename_i es he
   have hl:dK ps n=true:=by
     cases hb:dK ps n with
     | true=>rfl
     | false=>simp[hb] at he
   simp only[hl,cond_true] at he
   have h4:=mN (pre:=[]) (es:=List.replicate n zero) he rfl (by simp[gX hl])
   simp only[List.nil_append] at h4
   simp only[h4,h1,h2,h3,and_self,decide_true,Bool.and_self,if_true]
   exact⟨_,rfl,fun o=> ⟨_,rfl,rfl⟩⟩
 · cases hf:eG sz (List.replicate n zero) ps with
   | none=>trivial
   | some es=>
     simp only[iZ hf,h1,h2,h3,and_self,decide_true,Bool.and_self,if_true]
     exact⟨_,rfl,fun o=> ⟨_,rfl,rfl⟩⟩
theorem Ref.op {E:Env} {o:oS}:Ref (Uc E o) (au E o):=by
 cases o with
 | gh i r sz zero n parts=>
   refine⟨_,rfl,fun v=> ?_⟩
   cases v<;>first| trivial| skip
   exact Ref.dg fun ps=>Ref.G1
 | gi r sz zero n parts=>exact Ref.gg fun ps=>Ref.G1
 | mkMap r=>exact⟨_,rfl,fun o=> ⟨_,rfl,rfl⟩⟩
 | nM r x=>
   refine Ref.ev fun v=> ?_
   cases v<;>first| trivial| exact⟨_,rfl,fun o=> ⟨_,rfl,rfl⟩⟩
 | nN x=>
   refine Ref.ev fun v=> ?_
   cases v<;>first| trivial| skip
   refine⟨_,rfl,fun ⟨gen,sz,arr,fz,es⟩=> ?_⟩
   simp only
   split
   · intro hc
     obtain⟨rfl,rfl,rfl⟩:=hc
     simp only[and_self,if_true]
     refine⟨fun he=> ?_,fun he=> ?_⟩
     · rw[if_pos (by simpa using he)];exact⟨_,rfl,rfl⟩
     · rw[if_neg (by simpa using he)];exact rfl
   · trivial
 | uW x=>
   refine Ref.ev fun v=> ?_
   cases v with
   | fn f caps=>exact Ref.dV fun v' rs=>Ref.bR rfl
   | _=>exact Ref.rq fun v=>rfl
 | ph q x k v=>
   refine Ref.ev fun x=> ?_
   cases x<;>first| trivial| skip
   refine Ref.ev fun k=>Ref.ev fun v=>Ref.rq fun v=> ⟨_,rfl,fun ⟨gen,sz,arr,fz,es⟩=> ?_⟩
   cases es with
   | none=>trivial
   | some es=>
     rintro hc es' he
     simp only[hc,he,and_self,if_true]
     exact⟨_,by simp[hc],rfl⟩
 | rE q ok zero x k=>
   refine Ref.ev fun x=>Ref.ev fun k=> ?_
   intro hk
   simp only[hk,if_true]
   cases x<;>first| trivial| skip
   case mp r g=>
     refine⟨_,rfl,fun ⟨gen,sz,arr,fz,es⟩=> ?_⟩
     cases es with
     | none=>trivial
     | some es=>
       rintro hc v hv
       show (if gen=g∧sz=0 then gH ok zero es k else Act.fail)= .done v
       rw[if_pos hc]
       exact hv
   case mlit es=>
     rintro v hv
     exact hv
 | nL r sz jj s x=>exact Ref.ev fun s=>Ref.ev fun x=>Ref.content fun ys=>Ref.append
 | deep=>exact Ref.ev fun v=>rfl
 | rD ks agg sz x=>
   refine Ref.ev fun v=> ?_
   cases v<;>first| trivial| skip
   case ptr r g idx off=>
     refine⟨_,rfl,fun ⟨gen,sz',arr,fz,es⟩=> ?_⟩
     cases es with
     | none=>trivial
     | some es=>
       intro hc
       try simp only at hc
       simp only[hc,if_true]
       split
       · simp only[List.getElem?_cons_zero]
         exact Ref.cp fun v hv=>by
          obtain⟨v0,h0,rfl⟩:=Option.map_eq_some_iff.1 hv
          rw[gZ h0];rfl
       · trivial
 | move x=>exact Ref.ev fun v=>rfl
 | pick c a b=>
   refine Ref.ev fun v=> ?_
   cases v
   case bool c=>cases c with
     | true=>exact⟨fun _=>Ref.ev (fun v=>rfl),fun h=> (by cases h)⟩
     | false=>exact⟨fun h=> (by cases h),fun _=>Ref.ev (fun v=>rfl)⟩
   all_goals trivial
 | new r sz x=>
   refine Ref.ev fun v=>Ref.Cy fun h=> ?_
   simp only[Bool.and_eq_true] at h
   have h1:=gO h.1
   have h2:0 <sz:=Nat.le_of_ble_eq_true h.2
   simp only[h1,h2,decide_true,Bool.and_self,if_true]
   exact⟨_,rfl,fun o=> ⟨_,rfl,rfl⟩⟩
 | build cells parts=>
   refine Ref.dJ fun ps=> ?_
   cases hf:hP cells ps with
   | none=>trivial
   | some cs=>simp only[mi hf,force_eq];exact rfl
 | buildSlice r sz zero n parts=>
   refine Ref.dg fun ps=>Ref.Cy fun h=> ?_
   simp only[Bool.and_eq_true] at h
   have h1:=gO h.1.1
   have h2:0 <sz:=Nat.le_of_ble_eq_true h.1.2
   have h3:n*sz≤16777216:=Nat.le_of_ble_eq_true h.2
   split
   · rename_i es he
     have hl:dK ps n=true:=by
       cases hb:dK ps n with
       | true=>rfl
       | false=>simp[hb] at he
     simp only[hl,cond_true] at he
     have h4:=mN (pre:=[]) (es:=List.replicate n zero) he rfl (by simp[gX hl])
     simp only[List.nil_append] at h4
     simp only[h4,h1,h2,h3,and_self,decide_true,Bool.and_self,if_true]
     exact⟨_,rfl,fun o=> ⟨_,rfl,rfl⟩⟩
   · cases hf:eG sz (List.replicate n zero) ps with
     | none=>trivial
     | some es=>
       simp only[iZ hf,h1,h2,h3,and_self,decide_true,Bool.and_self,if_true]
       exact⟨_,rfl,fun o=> ⟨_,rfl,rfl⟩⟩
 | b7 r sz=>
   refine Ref.Cy fun h=> ?_
   have h2:0 <sz:=Nat.le_of_ble_eq_true h
   simp only[au,h2,if_true]
   exact⟨_,rfl,fun o=> ⟨_,rfl,rfl⟩⟩
 | nk r x=>
   refine Ref.ev fun v=> ?_
   cases v
   case sl r1 g off len=>
     cases hb:Nat.beq r1 r with
     | true=>
       obtain rfl:=Nat.eq_of_beq_eq_true hb
       simp only[if_true,hb,cond_true]
       exact rfl
     | false=>
       have:r1≠r:=Nat.ne_of_beq_eq_false hb
       simp only[hb,cond_false,this,if_false]
       refine⟨_,rfl,fun ⟨gen,sz',arr,fz,es⟩=> ?_⟩
       intro hg
       have UO:gen=g:=hg
       subst UO
       simp only[if_true]
       exact⟨_,rfl,fun o=> ⟨_,rfl,_,rfl,rfl⟩⟩
   all_goals exact rfl
 | makeSlice r sz bytes zero len cap=>
   refine Ref.ev fun l=>Ref.ev fun c=> ?_
   cases l<;>first| trivial| skip
   cases c<;>first| trivial| skip
   intro h
   simp only[h,and_self,if_true]
   exact⟨_,rfl,fun o=> ⟨_,rfl,rfl⟩⟩
 | load agg sz x=>
   refine Ref.ev fun v=> ?_
   cases v<;>first| trivial| skip
   case ptr r g idx off=>
     refine⟨_,rfl,fun ⟨gen,sz',arr,fz,es⟩=> ?_⟩
     cases es with
     | none=>trivial
     | some es=>
       intro hc
       try simp only at hc
       simp only[hc,if_true]
       have AN:Ref (.ex V (fun e=>es[idx]? =some e) fun e=>mg agg off sz e) (match es[idx]? with
         | some e=>AM.cp (part agg off sz e)
         | none=> .fail):=by
         intro e he
         simp only[he]
         rw[ku];exact Ref.cp fun v hv=>gZ hv
       cases arr with
       | true=>exact AN
       | false=>
         simp only
         split
         · rw[ku];exact Ref.cp fun v hv=>gZ hv
         · exact AN
   case eptr e off=>simp only[ku];exact Ref.cp fun v hv=>gZ hv
   case epk i z e off=>simp only[ku];exact Ref.cp fun v hv=>gZ hv
 | store agg sz x v=>
   refine Ref.ev fun v=> ?_
   cases v<;>first| trivial| skip
   refine⟨_,rfl,fun ⟨gen,sz',arr,fz,es⟩=> ?_⟩
   cases arr with
   | true=>exact Ref.ev fun v=>Ref.rq fun v=>Ref.iJ
   | false=>exact Ref.ev fun v=>Ref.iJ
 | nilCheck x=>exact Ref.ev fun v=>by cases v<;>first| trivial| exact rfl
 | bin op x y=>exact Ref.ev fun a=>Ref.ev fun b=>Ref.bin
 | MW neg x y=>
   refine Ref.ev fun a=>Ref.ev fun b=> ?_
   cases a<;>first| trivial| skip
   cases b<;>first| trivial| exact rfl
 | yy neg ks x y=>
   refine Ref.ev fun a=>Ref.ev fun b=> ?_
   cases a<;>first| trivial| skip
   cases b<;>first| trivial| skip
   rename_i as bs
   simp only
   cases dH ks as bs with
   | none=>trivial
   | some b=>exact rfl
 | un op x=>exact Ref.ev fun a=>Ref.ee
 | c8 k x=>exact Ref.ev fun v=>by cases v<;>first| trivial| exact rfl
 | pf x=>exact Ref.ev fun v=>by cases v<;>first| trivial| exact rfl
 | pg k x=>
   refine Ref.ev fun v=> ?_
   cases v<;>first| trivial| skip
   rintro n ⟨h1,h2,h3⟩
   simp only[h1,h2,h3,and_self,if_true]
   exact rfl
 | nK x=>exact Ref.ev fun v=>by cases v<;>first| trivial| exact rfl
 | gG t x=>exact Ref.ev fun v=>rfl
 | assert t ok zero x=>
   refine Ref.ev fun v=> ?_
   cases v<;>first| trivial| skip
   case nili=>cases ok<;>first| trivial| exact rfl
   case iface t' v=>
     cases hb:Nat.beq t' t with
     | true=>
       have:=Nat.eq_of_beq_eq_true hb
       cases ok<;>simp[hb,this,Ref]
     | false=>
       have:t'≠t:=Nat.ne_of_beq_eq_false hb
       cases ok<;>simp[hb,this,Ref]
 | fy f caps=>exact Ref.tG fun v=>rfl
 | ia x lo hi=>exact Ref.ev fun v=>Ref.sS fun l=>Ref.sS fun h=>Ref.ia
 | slice sz x lo hi mx=>
   rw[lJ]
   exact Ref.ev fun v=>Ref.sS fun l=>Ref.sS fun h=>Ref.sS fun m=>Ref.YI
 | fieldAddr off x=>exact Ref.ev fun v=>by cases v<;>first| trivial| exact rfl
 | field agg off sz x=>
   refine Ref.ev fun v=> ?_
   cases v<;>first| trivial| skip
   rename_i cs
   show Ref (mg agg off sz (V.agg cs)) (AM.cp (part agg off sz (V.agg cs)))
   rw[ku]
   exact Ref.cp fun v hv=>gZ hv
 | indexAddr sz x i=>
   rw[fP]
   exact Ref.ev fun v=>Ref.ev fun i=>Ref.idx
 | aW n sz x i=>
   refine Ref.ev fun v=>Ref.ev fun i=> ?_
   cases v<;>first| trivial| skip
   all_goals
     cases i<;>first| trivial| skip
     intro h
     simp only[h,and_self,if_true]
     exact rfl
 | ib x i=>
   refine Ref.ev fun v=>Ref.ev fun i=> ?_
   cases v<;>first| trivial| skip
   cases i<;>first| trivial| skip
   intro h b hb
   simp only[h,if_true,hb]
   exact rfl
 | ky agg n sz x i=>
   refine Ref.ev fun v=>Ref.ev fun i=> ?_
   cases i<;>first| trivial| skip
   intro h e he
   simp only[h,and_self,if_true,he]
   exact rfl
 | len x=>exact Ref.ev fun v=>Ref.ee
 | rC x=>exact Ref.ev fun v=>by cases v<;>first| trivial| exact rfl
 | min xs=>exact Ref.tG fun vs=>Ref.ee
 | max xs=>exact Ref.tG fun vs=>Ref.ee
 | append r sz jj s x=>
   rw[jG]
   exact Ref.ev fun s=>Ref.ev fun x=>Ref.content fun ys=>Ref.gF fun ys=>Ref.append
 | copy sz d s=>
   refine Ref.ev fun d=>Ref.ev fun s=>Ref.content fun ys=> ?_
   cases d<;>first| trivial| exact rfl| skip
   refine⟨_,rfl,fun ⟨gen,sz',arr,fz,es⟩=> ?_⟩
   cases es with
   | none=>trivial
   | some es=>
     intro hc
     try simp only at hc
     simp only[hc,and_self,if_true]
     exact⟨_,by simp[hc],rfl⟩
 | clear sz zero x=>
   refine Ref.ev fun d=> ?_
   cases d<;>first| trivial| exact rfl| skip
   refine⟨_,rfl,fun ⟨gen,sz',arr,fz,es⟩=> ?_⟩
   cases es with
   | none=>trivial
   | some es=>
     intro hc
     try simp only at hc
     simp only[hc,and_self,if_true]
     exact⟨_,by simp[hc],rfl⟩
 | extract x i=>
   refine Ref.ev fun v=> ?_
   cases v<;>first| trivial| skip
   simp only[yw]
   exact Ref.ee
 | call r bk f args=>
   refine Ref.ev fun v=> ?_
   cases v<;>first| trivial| skip
   rename_i f caps
   exact Ref.tG fun as=>Ref.o9
 | MX neg ks x y=>
   refine Ref.ev fun a=>Ref.ev fun b=> ?_
   cases a<;>first| trivial| skip
   case nili=>cases b<;>first| trivial| exact rfl
   case iface t p=>
     cases b<;>first| trivial| exact rfl| skip
     rename_i t' q
     cases hb:Nat.beq t t' with
     | true=>
       have:=Nat.eq_of_beq_eq_true hb
       subst this
       simp only[hb,cond_true,if_true]
       cases mO t ks with
       | none=>trivial
       | some k=>
         simp only
         cases s6 k p q with
         | none=>trivial
         | some b=>exact rfl
     | false=>simp only[hb,cond_false];trivial
 | HQ neg x y=>exact Ref.ev fun a=>Ref.ev fun b=>Ref.HQ
 | mapIter r x=>
   refine Ref.ev fun v=> ?_
   cases v<;>first| trivial| exact⟨_,rfl,fun o=> ⟨_,rfl,rfl⟩⟩
 | bad=>trivial
end Go.AM
namespace Go.AM
def zS (E:Env) (o:aX):aZ:=match o.guard with
 | none=>Uc E o.op
 | some (t,want)=> .ke t fun
   | .bool b=> (match want with
     | true=> .ite b (Uc E o.op) (.done da)
     | false=> .ite b (.done da) (Uc E o.op))
   | .tuple []=> .done da
   | _=> .fail
theorem Ref.oper {E:Env} {o:aX}:Ref (zS E o) (cX E o):=by
 unfold zS cX
 cases o.guard with
 | none=>exact Ref.op
 | some p=>
   obtain⟨t,want⟩:=p
   refine⟨_,rfl,fun v=> ?_⟩
   cases v<;>first| trivial| skip
   case bool b=>cases b<;>cases want<;>simp[Ref,Ref.op]
   case tuple vs=>cases vs with
    | nil=>exact rfl
    | cons=>trivial
def AO (E:Env):List aX→SS→(SS→Prop)→Prop
 | [],S,Q=>Q S
 | o::os,S,Q=>ek E (zS E o) S fun v S' _ _=>match S' with
   | ⟨T,O⟩=>match o.dst with
     | some d=>AO E os ⟨(d,v)::T,O⟩ Q
     | none=>AO E os ⟨T,O⟩ Q
def AP (E:Env):List aX→SS→(List dt→SS→Prop)→Prop
 | [],S,Q=>Q [] S
 | o::os,S,Q=>ek E (zS E o) S fun v S' r w=>match S' with
   | ⟨T,O⟩=>match o.dst with
     | some d=>AP E os ⟨(d,v)::T,O⟩ fun fs HT=>Q (⟨r,.t d::w⟩::fs) HT
     | none=>AP E os ⟨T,O⟩ fun fs HT=>Q (⟨r,w⟩::fs) HT
section
variable {E:Env}
theorem yz {a:Act} {σ:St} {Q:V→St→Prop} (h:nj E a σ fun v σ' _ _=>Q v σ'):tF E a σ Q:=by
 obtain⟨n,v,σ',h1,h2⟩:=h
 exact⟨n,v,σ',h1,h2⟩
theorem mP: ∀ {os:List aX} {S:SS} {Q:SS→Prop} {σ:St},AO E os S Q→S.On σ→ET E os σ fun σ'=> ∃S',S'.On σ'∧Q S'
 | [],S,Q,σ,h,ho=>by rw[qL];exact⟨S,ho,h⟩
 | o::os,S,Q,σ,h,ho=>by
   rw[nr]
   refine yz (kr (cq Ref.oper h ho) ?_)
   rintro v σ' r w ⟨⟨T,O⟩,uX,h'⟩
   have hp:=uX.put o.dst v
   cases hd:o.dst with
   | none=>simp only[hd] at h' hp ⊢;exact mP h' hp
   | some d=>simp only[hd] at h' hp ⊢;exact mP h' hp
theorem mQ: ∀ {os:List aX} {S:SS} {Q:List dt→SS→Prop} {σ:St},AP E os S Q→S.On σ→MT E os σ fun fs σ'=> ∃S',S'.On σ'∧Q fs S'
 | [],S,Q,σ,h,ho=>by rw[qO];exact⟨S,ho,h⟩
 | o::os,S,Q,σ,h,ho=>by
   rw[nC]
   refine kr (cq Ref.oper h ho) ?_
   rintro v σ' r w ⟨⟨T,O⟩,uX,h'⟩
   have hp:=uX.put o.dst v
   cases hd:o.dst with
   | none=>simp only[hd] at h' hp ⊢;exact mQ h' hp
   | some d=>simp only[hd] at h' hp ⊢;exact mQ h' hp
def thenS (Q:aP→SS→Prop) (k:SS→Prop):aP→SS→Prop
 | .normal,S=>k S
 | .exit id,S=>Q (.exit id) S
 | .ret,S=>Q .ret S
def Cz (id:Nat) (Q:aP→SS→Prop):aP→SS→Prop
 | .exit iF,S=>bif Nat.beq iF id then Q .normal S else Q (.exit iF) S
 | .normal,S=>Q .normal S
 | .ret,S=>Q .ret S
structure a9 (E:Env) (b:an) (S:SS) (Q:aP→SS→Prop):Prop where
 h: ∀σ,S.On σ→kf E (.loop b) σ fun e σ'=> ∃S',S'.On σ'∧Q e S'
structure CA (E:Env) (it nx ne id:Nat) (kT kO:List Nat) (h0 b l:an) (S:SS) (Q:aP→SS→Prop):Prop where
 h: ∀σ,S.On σ→kf E (.keys it nx ne id kT kO h0 b l) σ fun e σ'=> ∃S',S'.On σ'∧Q e S'
structure pj (E:Env) (x:aI) (ps:List Nat) (a b:an) (S:SS) (Q:aP→SS→Prop):Prop where
 h: ∀σ,S.On σ→kf E (.iY x ps a b) σ fun e σ'=> ∃S',S'.On σ'∧Q e S'
def oT (E:Env):an→SS→(aP→SS→Prop)→Prop
 | .skip,S,Q=>Q .normal S
 | .region ops,S,Q=>AO E ops S (Q .normal)
 | .drawn ops,S,Q=>AP E ops S fun fs S'=>ep (GZ (ops.map (·.pre)) [] [] fs=true) (Q .normal S')
 | .seq a b,S,Q=>oT E a S (thenS Q fun S'=>oT E b S' Q)
 | .cond c a b,S,Q=>match c with
   | .tmp t=> (match lk S.T t with
     | some (.bool c)=>Br c (oT E a S Q) (oT E b S Q)
     | _=>False)
   | .const (.bool c)=>Br c (oT E a S Q) (oT E b S Q)
   | _=>False
 | .block id b,S,Q=>oT E b S (Cz id Q)
 | .loop b,S,Q=>a9 E b S Q
 | .exit id,S,Q=>Q (.exit id) S
 | .ret,S,Q=>Q .ret S
 | .scope b,S,Q=>oT E b S Q
 | .bad,_,_=>False
 | .iY x ps a b,S,Q=>pj E x ps a b S Q
 | .keys it nx ne id kT kO h0 b l,S,Q=>CA E it nx ne id kT kO h0 b l S Q
theorem ct: ∀ {c:an} {S:SS} {Q:aP→SS→Prop} {σ:St},oT E c S Q→S.On σ→kf E c σ fun e σ'=> ∃S',S'.On σ'∧Q e S'
 | .skip,S,Q,σ,h,ho=>by rw[ny];exact⟨S,ho,h⟩
 | .region ops,S,Q,σ,h,ho=>by rw[jE];exact mP h ho
 | .drawn ops,S,Q,σ,h,ho=>by
   refine uP ?_
   have h1:=mQ h ho
   refine nD h1 ?_
   rintro fs σ' ⟨S',h2,h3,h4⟩
   exact⟨h3,S',h2,h4⟩
 | .seq a b,S,Q,σ,h,ho=>by
   rw[qN]
   refine fY (ct (c:=a) h ho) ?_
   rintro e σ' ⟨S',h1,h2⟩
   cases e with
   | normal=>exact ct (c:=b) h2 h1
   | exit id=>exact⟨S',h1,h2⟩
   | ret=>exact⟨S',h1,h2⟩
 | .cond c a b,S,Q,σ,h,ho=>by
   rw[nA]
   simp only[oT] at h
   cases c with
   | tmp t=>
     simp only at h
     split at h
     · rename_i c hc
       rw[iI,ho.1 t _ hc]
       cases c with
       | true=>exact ct (c:=a) (h.1 rfl) ho
       | false=>exact ct (c:=b) (h.2 rfl) ho
     · exact h.elim
   | const v=>
     cases v
     case bool c=>
       rw[fM]
       cases c with
       | true=>exact ct (c:=a) (h.1 rfl) ho
       | false=>exact ct (c:=b) (h.2 rfl) ho
     all_goals exact h.elim
 | .block id b,S,Q,σ,h,ho=>by
   rw[lI]
   refine fY (ct (c:=b) h ho) ?_
   rintro e σ' ⟨S',h1,h2⟩
   cases e with
   | normal=>exact⟨S',h1,h2⟩
   | ret=>exact⟨S',h1,h2⟩
   | exit iF=>
     simp only[Cz] at h2
     simp only[rj]
     cases hb:Nat.beq iF id with
     | true=>
       have:=Nat.eq_of_beq_eq_true hb
       simp only[hb,cond_true] at h2
       rw[if_pos this];exact⟨S',h1,h2⟩
     | false=>
       have:iF≠id:=Nat.ne_of_beq_eq_false hb
       simp only[hb,cond_false] at h2
       rw[if_neg this];exact⟨S',h1,h2⟩
 | .loop b,S,Q,σ,h,ho=>h.h σ ho
 | .exit id,S,Q,σ,h,ho=>by rw[nz];exact⟨S,ho,h⟩
 | .ret,S,Q,σ,h,ho=>by rw[qM];exact⟨S,ho,h⟩
 | .scope b,S,Q,σ,h,ho=>by rw[lH];exact ct (c:=b) h ho
 | .iY ..,S,Q,σ,h,ho=>h.h σ ho
 | .keys ..,S,Q,σ,h,ho=>h.h σ ho
 | .bad,_,_,_,h,_=>h.elim
theorem UP {x:V}:aF [x] 0 1=[x]:=rfl
def uY {α:Type}:List (Nat×α)→List (Nat×α)→Prop
 | [],_=>True
 | p::l,m=> (match lk m p.1 with
   | some x=>x=p.2
   | none=>False)∧uY l m
def SS.Sub (S S':SS):Prop:=uY S.T S'.T∧uY S.O S'.O
theorem uY.lk {α:Type}: ∀ {l m:List (Nat×α)},uY l m→ ∀ {n x},lk l n=some x→lk m n=some x
 | [],_,_,n,x,h=>by simp[AM.lk] at h
 | p::l,m,h,n,x,hx=>by
   rw[jI] at hx
   by_cases e:p.1=n
   · rw[if_pos e] at hx
     injection hx with hx
     have:=h.1
     subst e
     split at this
     · rename_i y hy;rw[hy,this,hx]
     · exact this.elim
   · rw[if_neg e] at hx
     exact uY.lk h.2 hx
theorem SS.Sub.on {S S':SS} (h:S.Sub S') {σ:St} (ho:S'.On σ):S.On σ:=
 ⟨fun t v hv=>ho.1 t v (h.1.lk hv),fun r o hr=>ho.2 r o (h.2.lk hr)⟩
def MY (Q:aP→SS→Prop) (I:Nat→SS→Prop) (k:Nat):aP→SS→Prop
 | .normal,S=> ∃j,j<k∧ ∃S',S'.Sub S∧I j S'
 | .exit id,S=>Q (.exit id) S
 | .ret,S=>Q .ret S
theorem a9.of {b:an} {Q:aP→SS→Prop} (I:Nat→SS→Prop) (hI: ∀k S,I k S→oT E b S (MY Q I k)) {k:Nat} {S0 S:SS} (hs:S0.Sub S) (h0:I k S0):a9 E b S Q:=by
 refine⟨fun σ ho=> ?_⟩
 refine vT (fun k σ=> ∃S,S.On σ∧I k S) ?_ k σ ⟨S0,hs.on ho,h0⟩
 rintro k σ ⟨S,hS,hi⟩
 refine fY (ct (hI k S hi) hS) ?_
 rintro e σ' ⟨S',h1,h2⟩
 cases e with
 | normal=>
   obtain⟨j,hj,HT,h3,h4⟩:=h2
   exact⟨j,hj,HT,h3.on h1,h4⟩
 | exit id=>exact⟨S',h1,h2⟩
 | ret=>exact⟨S',h1,h2⟩
theorem cF: ∀ {a:aZ} {S:SS} {Q Q':KK},ek E a S Q→(∀v S' r w,Q v S' r w→Q' v S' r w)→ek E a S Q'
 | .done v,_,_,_,h,k=>k _ _ _ _ h
 | .fail,_,_,_,h,_=>h
 | .ke t f,S,Q,Q',h,k=>by
   simp only[ek] at h ⊢
   split
   · rename_i v hv
     rw[hv] at h
     exact cF h fun _ _ _ _ h=>k _ _ _ _ h
   · rename_i hv;rw[hv] at h;exact h
 | .bB t f,S,Q,Q',h,k=>by
   simp only[ek] at h ⊢
   split
   · rename_i v hv
     rw[hv] at h
     exact cF h fun _ _ _ _ h=>k _ _ _ _ h
   · rename_i hv;rw[hv] at h;exact h
 | .bg t o f,⟨T,O⟩,Q,Q',h,k=>by
   simp only[ek] at h ⊢
   exact cF h fun _ _ _ _ h=>k _ _ _ _ h
 | .kh t f,S,Q,Q',h,k=>by
   simp only[ek] at h ⊢
   exact fun g=>cF (h g) fun _ _ _ _ h=>k _ _ _ _ h
 | .call f as c,S,Q,Q',h,k=>by
   simp only[ek] at h ⊢
   obtain⟨res,h1,h2⟩:=h
   exact⟨res,h1,cF h2 k⟩
 | .bA p c,S,Q,Q',h,k=> ⟨h.1,cF h.2 k⟩
 | .ex α p c,S,Q,Q',h,k=>by
   obtain⟨x,h1,h2⟩:=h
   exact⟨x,h1,cF h2 k⟩
 | .ite b x y,S,Q,Q',h,k=> ⟨fun hb=>cF (h.1 hb) k,fun hb=>cF (h.2 hb) k⟩
 | .MV a,S,Q,Q',h,k=> ⟨fun σ ho=>kr (h.h σ ho) fun v σ' r w ⟨S',h1,h2⟩=> ⟨S',h1,k _ _ _ _ h2⟩⟩
 | .alt x y,S,Q,Q',h,k=>by
   rcases h with h| h
   · exact .inl (cF h k)
   · exact .inr (cF h k)
 | .all f,S,Q,Q',h,k=>fun n=>cF (h n) k
theorem pk: ∀ {os:List aX} {S:SS} {Q Q':SS→Prop},AO E os S Q→(∀S',Q S'→Q' S')→AO E os S Q'
 | [],_,_,_,h,k=>k _ h
 | o::os,_,_,_,h,k=>cF h fun _ ⟨T,O⟩ _ _ h=>by
   cases hd:o.dst with
   | none=>simp only[hd] at h ⊢;exact pk h k
   | some d=>simp only[hd] at h ⊢;exact pk h k
theorem pn: ∀ {os:List aX} {S:SS} {Q Q':List dt→SS→Prop},AP E os S Q→(∀fs S',Q fs S'→Q' fs S')→AP E os S Q'
 | [],_,_,_,h,k=>k _ _ h
 | o::os,_,_,_,h,k=>cF h fun _ ⟨T,O⟩ _ _ h=>by
   cases hd:o.dst with
   | none=>simp only[hd] at h ⊢;exact pn h fun _ _ h=>k _ _ h
   | some d=>simp only[hd] at h ⊢;exact pn h fun _ _ h=>k _ _ h
theorem eU: ∀ {c:an} {S:SS} {Q Q':aP→SS→Prop},oT E c S Q→(∀e S',Q e S'→Q' e S')→oT E c S Q'
 | .skip,_,_,_,h,k=>k _ _ h
 | .region _,_,_,_,h,k=>pk h fun _ h=>k _ _ h
 | .drawn _,_,_,_,h,k=>pn h fun _ _ h=> ⟨h.1,k _ _ h.2⟩
 | .seq a b,_,Q,Q',h,k=>eU (c:=a) h fun e S' h'=>by
   cases e with
   | normal=>exact eU (c:=b) h' k
   | exit id=>exact k _ _ h'
   | ret=>exact k _ _ h'
 | .cond c a b,S,Q,Q',h,k=>by
   simp only[oT] at h ⊢
   cases c with
   | tmp t=>
     simp only at h ⊢
     split at h
     · exact⟨fun hb=>eU (c:=a) (h.1 hb) k,fun hb=>eU (c:=b) (h.2 hb) k⟩
     · exact h.elim
   | const v=>
     cases v
     case bool c=>exact⟨fun hb=>eU (c:=a) (h.1 hb) k,fun hb=>eU (c:=b) (h.2 hb) k⟩
     all_goals exact h.elim
 | .block id b,_,Q,Q',h,k=>eU (c:=b) h fun e S' h'=>by
   cases e with
   | normal=>exact k _ _ h'
   | ret=>exact k _ _ h'
   | exit iF=>
     simp only[Cz] at h' ⊢
     cases hb:Nat.beq iF id with
     | true=>simp only[hb,cond_true] at h' ⊢;exact k _ _ h'
     | false=>simp only[hb,cond_false] at h' ⊢;exact k _ _ h'
 | .loop b,_,_,_,h,k=> ⟨fun σ ho=>fY (h.h σ ho) fun e σ' ⟨S',h1,h2⟩=> ⟨S',h1,k _ _ h2⟩⟩
 | .exit _,_,_,_,h,k=>k _ _ h
 | .ret,_,_,_,h,k=>k _ _ h
 | .scope b,_,_,_,h,k=>eU (c:=b) h k
 | .iY ..,_,_,_,h,k=> ⟨fun σ ho=>fY (h.h σ ho) fun e σ' ⟨S',h1,h2⟩=> ⟨S',h1,k _ _ h2⟩⟩
 | .keys ..,_,_,_,h,k=> ⟨fun σ ho=>fY (h.h σ ho) fun e σ' ⟨S',h1,h2⟩=> ⟨S',h1,k _ _ h2⟩⟩
 | .bad,_,_,_,h,_=>h
inductive br {α:Type} (Sh:α→SS) (P:α→Prop) (μ:α→Nat) (a:α) (S:SS):Prop
 | mk (a':α) (h1:μ a'<μ a) (h2:P a') (h3: (Sh a').Sub S)
def HU {α:Type} (Q:aP→SS→Prop) (Sh:α→SS) (P:α→Prop) (μ:α→Nat) (a:α):aP→SS→Prop
 | .normal,S=>br Sh P μ a S
 | .exit id,S=>Q (.exit id) S
 | .ret,S=>Q .ret S
theorem a9.by {α:Type} {b:an} {Q:aP→SS→Prop} {S:SS} (Sh:α→SS) (P:α→Prop) (μ:α→Nat) (a0:α) (hs: (Sh a0).Sub S) (h0:P a0)
   (step: ∀a,P a→oT E b (Sh a) (HU Q Sh P μ a)):a9 E b S Q:=by
 refine a9.of (fun k S=> ∃a,k=μ a∧P a∧S=Sh a) ?_ hs ⟨a0,rfl,h0,rfl⟩
 rintro k S ⟨a,rfl,hp,rfl⟩
 refine eU (step a hp) fun e S' h=> ?_
 cases e with
 | normal=>
   obtain⟨a',h1,h2,h3⟩:=h
   exact⟨_,h1,_,h3,a',rfl,h2,rfl⟩
 | exit id=>exact h
 | ret=>exact h
theorem a9.HV {b:an} {Q:aP→SS→Prop} {S:SS} (h:a9 E b S fun e S'=> ∃S0,S0.Sub S'∧Q e S0):a9 E b S Q:=by
 refine⟨fun σ ho=>fY (h.h σ ho) ?_⟩
 rintro e σ' ⟨S',h1,S0,h2,h3⟩
 exact⟨S0,h2.on h1,h3⟩
def MZ (K:SS→Prop):aP→SS→Prop
 | .normal,S=>K S
 | _,_=>False
def vZ (S:SS):List Nat→List V→SS
 | p::ps,x::xs=>vZ (S.put (some p) x) ps xs
 | _,_=>S
theorem v3: ∀ {ps:List Nat} {x:List V} {S:SS} {T:Nat→V} {O:Nat→Obj},S.On ⟨T,O⟩→(vZ S ps x).On ⟨kA T ps x,O⟩
 | [],x,S,T,O,h=>by simpa [vZ,kA] using h
 | p::ps,[],S,T,O,h=>by simpa [vZ,kA] using h
 | p::ps,x::xs,S,T,O,h=>v3 (ps:=ps) (x:=xs) (h.put (some p) x)
inductive EX {α:Type} (Oh:α→List (Nat×Obj)) (P:α→Prop) (O:List (Nat×Obj)):Prop
 | mk (a:α) (h1:P a) (h2:uY (Oh a) O)
def UQ {α:Type} (Q:aP→SS→Prop) (T:List (Nat×V)) (Oh:α→List (Nat×Obj)) (P:α→Prop):aP→SS→Prop
 | .normal,S=>EX Oh P S.O
 | .exit id,S=>Q (.exit id) ⟨T,S.O⟩
 | .ret,S=>Q .ret ⟨T,S.O⟩
theorem pj.by {α:Type} {fx:aI} {ps:List Nat} {ac b:an} {S:SS} {Q:aP→SS→Prop} {g:Nat} {caps:List V} (xs:List (List V)) (hf:match fx with| .tmp t=>lk S.T t=some (.fn g caps) | .const v=>v= .fn g caps) (hi:E.iter g caps=some xs) (hl: ∀x ∈ xs,x.length=ps.length)
  (Oh:α→List (Nat×Obj)) (P:Nat→α→Prop) (a0:α) (h0:uY (Oh a0) S.O) (hp:P 0 a0)
  (step: ∀ (k:Nat) x a,xs[k]? =some x→P k a→oT E ac (vZ ⟨S.T,Oh a⟩ ps x) (MZ fun S1=>oT E b S1 (UQ Q S.T Oh (P (k+1)))))
  (fin: ∀a,P xs.length a→Q .normal ⟨S.T,Oh a⟩):pj E fx ps ac b S Q:=by
 refine⟨fun σ ho=> ?_⟩
 have M0: ∀ {l:List (Nat×Obj)} {σ:St} {m:List (Nat×Obj)},uY l m→(∀r o,lk m r=some o→σ.O r=o)→ ∀r o,lk l r=some o→σ.O r=o:=fun {l σ m} hs hm=>by
  have h2: (⟨[],m⟩:SS).On σ:=⟨fun t v h=>by simp[lk] at h,hm⟩
  exact(SS.Sub.on (S:=⟨[],l⟩) (S':=⟨[],m⟩) ⟨trivial,hs⟩ h2).2
 have run: ∀ (rest:List (List V)) (k:Nat) (a:α) (O:Nat→Obj),xs.drop k=rest→P k a→(∀r o,lk (Oh a) r=some o→O r=o)→k≤xs.length→ ∃n e σ',nO (exec E n) ps ac b σ.T rest O=some (e,σ')∧ ∃S',S'.On σ'∧Q e S':=by
  intro rest
  induction rest with
  | nil=>
    intro k a O hd Mr hO Ud
    have hk:xs.length≤k:=by
      have:=congrArg List.length hd
      simp at this;omega
    have:k=xs.length:=by omega
    subst this
    exact⟨0,.normal,⟨σ.T,O⟩,rfl,⟨S.T,Oh a⟩,⟨ho.1,hO⟩,fin a Mr⟩
  | cons x rest ih=>
    intro k a O hd Mr hO Ud
    have hk:k<xs.length:=by
      rcases Nat.lt_or_ge k xs.length with h| h
      · exact h
      · rw[List.drop_of_length_le h] at hd;simp at hd
    rw[List.drop_eq_getElem_cons hk] at hd
    injection hd with hx hd
    have YJ:xs[k]? =some x:=by rw[List.getElem?_eq_getElem hk,hx]
    obtain⟨n1,e1,σ1,h1,S1,h2,h3⟩:=ct (step k x a YJ Mr) (v3 (x:=x) (ps:=ps) (S:=⟨S.T,Oh a⟩) (T:=σ.T) (O:=O) ⟨ho.1,hO⟩)
    cases e1 with
    | exit id=>exact h3.elim
    | ret=>exact h3.elim
    | normal=>
      obtain⟨n2,e2,σ2,k1,S2,k2,k3⟩:=ct h3 h2
      cases e2 with
      | normal=>
        obtain⟨a',q1,q2⟩:=k3
        obtain⟨n3,e,σ',l1,l2⟩:=ih (k+1) a' σ2.O hd q1 (M0 (σ:=σ2) q2 k2.2) (by omega)
        refine⟨max n1 (max n2 n3),e,σ',?_,l2⟩
        have m1:=bX (E:=E) (Nat.le_max_left n1 (max n2 n3)) _ _ _ h1
        have m2:=bX (E:=E) (Nat.le_trans (Nat.le_max_left n2 n3) (Nat.le_max_right n1 _)) _ _ _ k1
        have m3:=oW (fun c σ x h=>bX (E:=E) (Nat.le_trans (Nat.le_max_right n2 n3) (Nat.le_max_right n1 _)) c σ x h) l1
        simp only[nO,m1,m2,m3]
      | exit id=>
        refine⟨max n1 n2,.exit id,⟨σ.T,σ2.O⟩,?_,⟨S.T,S2.O⟩,⟨ho.1,k2.2⟩,k3⟩
        have m1:=bX (E:=E) (Nat.le_max_left n1 n2) _ _ _ h1
        have m2:=bX (E:=E) (Nat.le_max_right n1 n2) _ _ _ k1
        simp only[nO,m1,m2]
      | ret=>
        refine⟨max n1 n2,.ret,⟨σ.T,σ2.O⟩,?_,⟨S.T,S2.O⟩,⟨ho.1,k2.2⟩,k3⟩
        have m1:=bX (E:=E) (Nat.le_max_left n1 n2) _ _ _ h1
        have m2:=bX (E:=E) (Nat.le_max_right n1 n2) _ _ _ k1
        simp only[nO,m1,m2]
 obtain⟨n,e,σ',h1,h2⟩:=run xs 0 a0 σ.O (by simp) hp (M0 (σ:=σ) h0 ho.2) (Nat.zero_le _)
 refine⟨n+1,e,σ',?_,h2⟩
 have HW:aQ σ fx= .fn g caps:=by
  cases fx with
  | tmp t=>exact ho.1 t _ hf
  | const v=>exact hf
 have nP:xs.all (fun x=>Nat.beq x.length ps.length)=true:=by
  rw[List.all_eq_true];intro x hx;rw[Nat.beq_eq];exact hl x hx
 simp only[exec,aA,HW,hi,nP,if_true,h1]
def CB (K:SS→Prop):aP→SS→Prop
 | .normal,S=>K S
 | _,_=>False
def M1 (id:Nat) (K:SS→Prop):aP→SS→Prop
 | .exit iF,S=>ep (iF=id) (K S)
 | _,_=>False
theorem yA {α:Type}: ∀ {l:List (Nat×α)} {n:Nat} {v:α},lk l n=some v→(n,v) ∈ l
 | [],n,v,h=>by simp[lk] at h
 | (k,u)::l,n,v,h=>by
   rw[jI] at h
   split at h
   · rename_i e
     simp only at e
     subst e
     injection h with h;subst h;simp
   · exact List.mem_cons_of_mem _ (yA h)
theorem CA.by {it nx ne id:Nat} {kT kO:List Nat} {h0 b l:an} {Q:aP→SS→Prop} {S:SS} {r g:Nat} {arr:Bool} {es:List V} (Sh:List V→SS) (Sf:SS)
   (hT:lk S.T it=some (.it r g)) (hO:lk S.O r=some ⟨g,0,arr,false,some [.mlit es]⟩) (UR: (Sh []).Sub ⟨S.T,(r,⟨g,0,false,false,none⟩)::S.O⟩)
   (po: ∀d,lk (Sh d).T it=some (.it r g)) (hg: ∀d,∃o,lk (Sh d).O r=some o∧o.gen=g) (bp: ∀e ∈ es,∃k v,e= .tuple [k,v])
   (step: ∀d k v rest,(d++ .tuple [k,v]::rest).Perm es→oT E h0 (SS.put (Sh d) (some nx) (.tuple [.bool true,k,v])) (CB fun S1=> (lk S1.T it=some (.it r g)∧ ∃o,lk S1.O r=some o∧o.gen=g)∧oT E b (SS.put S1 (some ne) (.tuple [k,v])) (CB fun S'=> (Sh (d++[.tuple [k,v]])).Sub S')))
   (last: ∀d,d.Perm es→oT E h0 (SS.put (Sh d) (some nx) (.tuple [.bool false])) (M1 id fun S'=>oT E l S' (CB fun HT=>Sf.Sub HT)))
   (G2:kT.all (fun t=> (lk Sf.T t).isSome)=true) (G3:kO.all (fun t=> (lk Sf.O t).isSome)=true) (fT:Sf.T.all (fun p=>kT.contains p.1)=true) (fO:Sf.O.all (fun p=>kO.contains p.1)=true)
   (hQ:Q .normal Sf):CA E it nx ne id kT kO h0 b l S Q:=by
 refine⟨fun σ ho=> ?_⟩
 have US: (Sh []).On ⟨σ.T,cW σ.O r ⟨g,0,false,false,none⟩⟩:=by
   refine UR.on ⟨fun t v hv=>ho.1 t v hv,fun x o hx=> ?_⟩
   rw[jI] at hx
   show cW σ.O r _ x=o
   unfold cW
   by_cases e:r=x
   · simp only[e,if_true,Option.some.injEq] at hx ⊢;exact hx
   · rw[if_neg e] at hx;rw[if_neg (Ne.symm e)];exact ho.2 x o hx
 have G4: ∀d (τ:St),(Sh d).On τ→qD it r g τ=true:=fun d τ hτ=>by
   obtain⟨o,h1,h2⟩:=hg d
   unfold qD
   rw[hτ.1 _ _ (po d),hτ.2 _ _ h1]
   simp[h2]
 have run: ∀ (rest d:List V) (τ:St),(d++rest).Perm es→(Sh d).On τ→ ∃n σp,runK (exec E n) it r g nx ne id h0 b l rest τ=some σp∧Sf.On σp:=by
   intro rest
   induction rest with
   | nil=>
     intro d τ hp hτ
     obtain⟨n1,e,τ1,h1,S1,h2,h3⟩:=ct (last d (by simpa using hp)) (hτ.put (some nx) (.tuple [.bool false]))
     cases e with
     | normal=>exact h3.elim
     | ret=>exact h3.elim
     | exit iF=>
       obtain⟨rfl,h3⟩:=h3
       obtain⟨n2,e2,τ2,k1,S2,k2,k3⟩:=ct h3 h2
       cases e2 with
       | exit iF=>exact k3.elim
       | ret=>exact k3.elim
       | normal=>
         refine⟨max n1 n2,τ2,?_,SS.Sub.on k3 k2⟩
         have m1:=bX (E:=E) (Nat.le_max_left n1 n2) _ _ _ h1
         have m2:=bX (E:=E) (Nat.le_max_right n1 n2) _ _ _ k1
         simp only[runK,G4 d τ hτ,if_true,m1,m2]
   | cons x rest ih=>
     intro d τ hp hτ
     obtain⟨k,v,rfl⟩:=bp x (hp.mem_iff.1 (by simp))
     obtain⟨n1,e,τ1,h1,S1,h2,h3⟩:=ct (step d k v rest hp) (hτ.put (some nx) (.tuple [.bool true,k,v]))
     cases e with
     | exit iF=>exact h3.elim
     | ret=>exact h3.elim
     | normal=>
       obtain⟨⟨t1,o1,t2,t3⟩,h3⟩:=h3
       have UT:qD it r g τ1=true:=by
         unfold qD
         rw[h2.1 _ _ t1,h2.2 _ _ t2]
         simp[t3]
       obtain⟨n3,e3,τ3,l1,S3,l2,l3⟩:=ct h3 (h2.put (some ne) (.tuple [k,v]))
       cases e3 with
       | exit iF=>exact l3.elim
       | ret=>exact l3.elim
       | normal=>
         obtain⟨n2,σp,k1,k2⟩:=ih (d++[.tuple [k,v]]) τ3 (by simpa using hp) (SS.Sub.on l3 l2)
         refine⟨max n1 (max n3 n2),σp,?_,k2⟩
         have m1:=bX (E:=E) (Nat.le_max_left n1 (max n3 n2)) _ _ _ h1
         have m3:=bX (E:=E) (Nat.le_trans (Nat.le_max_left n3 n2) (Nat.le_max_right n1 _)) _ _ _ l1
         have m2:=lG (fun c σ x h=>bX (E:=E) (Nat.le_trans (Nat.le_max_right n3 n2) (Nat.le_max_right n1 _)) c σ x h) k1
         simp only[runK,G4 d τ hτ,UT,if_true,m1,m3,m2]
 obtain⟨n,ys,h1,h2,h3⟩:=rF (f:=fun n p=>runK (exec E n) it r g nx ne id h0 b l p ⟨σ.T,cW σ.O r ⟨g,0,false,false,none⟩⟩) (P:=fun σp=>Sf.On σp)
   (fun n m p y M3 h=>lG (fun c σ x h=>bX (E:=E) M3 c σ x h) h) (l:=perms es) fun p hp=>run p [] _ (by simpa using pQ hp) US
 have cB:perms es≠[]:=fun e=>by have:=kB (List.Perm.refl es);rw[e] at this;simp at this
 match ys,h2,h3,h1 with
 | [],h2,_,_=>exact absurd (List.length_eq_zero_iff.1 h2.symm) cB
 | σ1::σs,_,h3,h1=>
   have YK:σ.T it= .it r g:=ho.1 _ _ hT
   have YL:=ho.2 _ _ hO
   have Ue:σs.all (nQ kT kO σ1)=true:=by
     rw[List.all_eq_true]
     intro τ hτ
     have o1:=h3 σ1 (by simp)
     have o2:=h3 τ (by simp[hτ])
     simp only[nQ,Bool.and_eq_true,List.all_eq_true] at G2 G3 ⊢
     refine⟨fun t ht=> ?_,fun x hx=> ?_⟩
     · obtain⟨v,hv⟩:=Option.isSome_iff_exists.1 (G2 t ht)
       rw[o1.1 t v hv,o2.1 t v hv];exact V.ie v
     · obtain⟨v,hv⟩:=Option.isSome_iff_exists.1 (G3 x hx)
       rw[o1.2 x v hv,o2.2 x v hv];exact Obj.ie v
   refine⟨n+1,.normal,forget kT kO σ1 σs,?_,Sf,?_,hQ⟩
   · simp only[exec,aA,YK,YL,and_self,if_true,h1,Ue]
   · have o1:=h3 σ1 (by simp)
     refine⟨fun t v hv=> ?_,fun x o hx=> ?_⟩
     · have:=List.all_eq_true.1 fT _ (yA hv)
       simp only[forget,this,if_true]
       exact o1.1 t v hv
     · have:=List.all_eq_true.1 fO _ (yA hx)
       simp only[forget,this,if_true]
       exact o1.2 x o hx
theorem G5 (i:Nat) (h:i< 4611686018427387904):V.int .i64 (IntKind.i64.wrap ((i:Int)+1))=V.int .i64 ((i+1:Nat):Int):=by
 rw[wrap64 (by omega) (by omega)];rfl
def yB ( S:SS):List nB→(List V→Prop)→Prop
 | [],k=>k []
 | .tmp t::rs,k=> (match lk S.T t with
   | some v=>yB S rs fun vs=>k (v::vs)
   | none=>False)
 | .cell t agg sz::rs,k=> (match lk S.T t with
   | some (.ptr r g idx off)=> (match lk S.O r with
     | some ⟨bS,_,_,_,fQ⟩=> (match fQ with
       | some [e]=> (match idx with
         | 0=>ep (bS=g) (match rv agg off sz e with
           | some v=>yB S rs fun vs=>k (v::vs)
           | none=>False)
         | _+1=>False)
       | _=>False)
     | none=>False)
   | _=>False)
theorem mR {  S:SS} {σ:St} (ho:S.On σ): ∀ {rs:List nB} {k:List V→Prop},yB S rs k→ ∃vs,cr σ rs=some vs∧k vs
 | [],k,h=> ⟨[],rfl,h⟩
 | .tmp t::rs,k,h=>by
   simp only[yB] at h
   split at h
   · rename_i v hv
     obtain⟨vs,h1,h2⟩:=mR ho h
     exact⟨v::vs,by simp[cr,dC,h1,ho.1 t v hv],h2⟩
   · exact h.elim
 | .cell t agg sz::rs,k,h=>by
   simp only[yB] at h
   split at h
   · rename_i r g idx off hv
     split at h
     · rename_i bS eQ cI gm fQ hr
       split at h
       · rename_i e
         split at h
         · obtain⟨hg,h⟩:=h
           split at h
           · rename_i v hp
             obtain⟨vs,h1,h2⟩:=mR ho h
             refine⟨v::vs,?_,h2⟩
             simp[cr,dC,h1,ho.1 t _ hv,ho.2 r _ hr,hg,gZ hp]
           · exact h.elim
         · exact h.elim
       · exact h.elim
     · exact h.elim
   · exact h.elim
def pR (S:SS):Nat→List V→(List (Nat×List V)→Prop)→Prop
 | _,[],k=>k []
 | i,.msl sz _ _ _::as,k| i,.mptr sz _ _ _::as,k=> (match lk S.O i with
   | some ⟨bS,eQ,_,gm,fQ⟩=> (match fQ with
     | some es=>ep (gm=false∧eQ=sz∧V.al es=true) (pR S (i+1) as fun outs=>k ((bS,es)::outs))
     | none=>False)
   | none=>False)
 | i,_::as,k=>pR S (i+1) as k
theorem iM {S:SS} {σ:St} (ho:S.On σ): ∀ {as:List V} {i:Nat} {k:List (Nat×List V)→Prop},pR S i as k→ ∃outs,bC σ.O i as=some outs∧k outs
 | [],i,k,h=> ⟨[],by simp[bC],by simpa [pR] using h⟩
 | a::as,i,k,h=>by
   cases a
   case msl sz es' off len=>
    simp only[pR] at h
    split at h
    · rename_i bS eQ cI gm fQ hr
      split at h
      ·  rename_i es
         obtain⟨hc,h⟩:=h
         obtain⟨outs,h1,h2⟩:=iM ho h
         refine⟨_,?_,h2⟩
         simp[bC,ho.2 i _ hr,h1,hc]
      · exact h.elim
    · exact h.elim
   case mptr sz es' off len=>
    simp only[pR] at h
    split at h
    · rename_i bS eQ cI gm fQ hr
      split at h
      ·  rename_i es
         obtain⟨hc,h⟩:=h
         obtain⟨outs,h1,h2⟩:=iM ho h
         refine⟨_,?_,h2⟩
         simp[bC,ho.2 i _ hr,h1,hc]
      · exact h.elim
    · exact h.elim
   all_goals
    simp only[pR] at h
    obtain⟨outs,h1,h2⟩:=iM ho h
    exact⟨outs,by simp[bC,h1],h2⟩
def nR ( n:Nat) (S:SS) (c:V) (k:V→List Nat→Prop):Prop:=
 match c with
 | .sl r g off len=> (match lk S.O r with
   | some ⟨bS,eQ,cI,gm,fQ⟩=> (match fQ with
     | some es=>ep (bS=g∧cI=true) (bd (fun ys=>aF es off len=ys) fun ys=>ep (off+len≤es.length∧V.al ys=true)
        (bif Nat.blt r n then k (.sl r g off len) [r] else bif gm then k (.lit eQ ys) [] else k (.own eQ ys) [r]))
     | none=>False)
   | none=>False)
 | c=>ep (V.aw c=true) (k c [])
theorem kC {n:Nat} {S:SS} {σ:St} (ho:S.On σ) {c:V} {k:V→List Nat→Prop} (h:nR n S c k): ∃v rs,bn n σ c=some (v,rs)∧k v rs:=by
 unfold nR at h
 split at h
 · rename_i r g off len
   split at h
   · rename_i bS eQ cI gm fQ hr
     split at h
     · rename_i es
       obtain⟨⟨h1,h2⟩,ys,rfl,⟨h3,h4⟩,h⟩:=h
       have e1:=ho.2 r _ hr
       simp only[bn,e1,h1,h2,h3,h4,and_self,if_true]
       cases hb:Nat.blt r n with
       | true=>
         have:r<n:=by simpa [Nat.blt_eq] using hb
         simp only[hb,cond_true] at h
         rw[if_pos this];exact⟨_,_,rfl,h⟩
       | false=>
         have: ¬r<n:=by intro hc;rw[←Nat.blt_eq,hb] at hc;simp at hc
         simp only[hb,cond_false] at h
         rw[if_neg this]
         cases hz:gm with
         | true=>simp only[hz,cond_true] at h;exact⟨_,_,by simp[e1,hz],h⟩
         | false=>simp only[hz,cond_false] at h;exact⟨_,_,by simp[e1,hz],h⟩
     · exact h.elim
   · exact h.elim
 · rename_i hn
   refine⟨c,[],?_,h.rest⟩
   have h:=h.side
   unfold bn
   cases c
   case sl=>exact absurd rfl (hn _ _ _ _)
   all_goals simp_all
def lL (n:Nat) (S:SS):List V→(List V→List Nat→Prop)→Prop
 | [],k=>k [] []
 | c::cs,k=>nR n S c fun c' r=>lL n S cs fun cj rs=>k (c'::cj) (r++rs)
theorem gp {n:Nat} {S:SS} {σ:St} (ho:S.On σ): ∀ {cs:List V} {k:List V→List Nat→Prop},lL n S cs k→ ∃v rs,a8 n σ cs=some (v,rs)∧k v rs
 | [],_,h=> ⟨[],[],rfl,h⟩
 | c::cs,k,h=>by
   obtain⟨v,r,h1,h2⟩:=kC ho h
   obtain⟨vs,rs,h3,h4⟩:=gp ho h2
   exact⟨_,_,by simp[a8,h1,h3],h4⟩
def CC (n:Nat) (S:SS) (v:V) (k:V→List Nat→Prop):Prop:=
 bif V.aw v then k v [] else
 match v with
 | .agg cs=>lL n S cs fun cj rs=>k (.agg cj) rs
 | .fn f cs=>lL n S cs fun cj rs=>ep (V.al cj=true) (k (.fn f cj) rs)
 | v=>nR n S v k
theorem v5 {n:Nat} {S:SS} {σ:St} (ho:S.On σ) {v:V} {k:V→List Nat→Prop} (h:CC n S v k): ∃v' rs,cf n σ v=some (v',rs)∧k v' rs:=by
 unfold CC at h
 unfold cf
 cases hp:V.aw v with
 | true=>simp only[hp,cond_true] at h;exact⟨v,[],by simp,h⟩
 | false=>
   simp only[hp,cond_false] at h
   simp only[Bool.false_eq_true,if_false]
   split at h
   · obtain⟨cj,rs,h1,h2⟩:=gp ho h
     exact⟨_,_,by simp[h1],h2⟩
   · obtain⟨cj,rs,h1,h2,h3⟩:=gp ho h
     exact⟨_,_,by simp[h1,h2],h3⟩
   · obtain⟨v',rs,h1,h2⟩:=kC ho h
     exact⟨v',rs,by cases v<;>simp_all,h2⟩
def yC (n:Nat) (S:SS):List V→(List V→List Nat→Prop)→Prop
 | [],k=>k [] []
 | c::cs,k=>CC n S c fun c' r=>yC n S cs fun cj rs=>k (c'::cj) (r++rs)
theorem nS {n:Nat} {S:SS} {σ:St} (ho:S.On σ): ∀ {cs:List V} {k:List V→List Nat→Prop},yC n S cs k→ ∃v rs,bO n σ cs=some (v,rs)∧k v rs
 | [],_,h=> ⟨[],[],rfl,h⟩
 | c::cs,k,h=>by
   obtain⟨v,r,h1,h2⟩:=v5 ho h
   obtain⟨vs,rs,h3,h4⟩:=nS ho h2
   exact⟨_,_,by simp[bO,h1,h3],h4⟩
def pq (rs:List nB) (args:List V) (S:SS) (R:eS→Prop):Prop:=
 yB S rs fun vs=>pR S 0 args fun outs=>yC args.length S vs fun vs' refs=>ep (distinct refs=true) (match vs' with
  | [v]=>R ⟨v,outs⟩
  | vs'=>R ⟨.tuple vs',outs⟩)
def v7 (rs:List nB) (args:List V) (R:eS→Prop):aP→SS→Prop
 | .exit _,_=>False
 | .normal,S=>pq rs args S R
 | .ret,S=>pq rs args S R
theorem uZ {rs:List nB} {args:List V} {S:SS} {R:eS→Prop} {σ:St} (ho:S.On σ) (h:pq rs args S R): ∃res,leave ⟨0,0,[],rs,.skip,none⟩ args σ=some res∧R res:=by
 obtain⟨vs,h1,h⟩:=mR ho h
 obtain⟨outs,h2,h⟩:=iM ho h
 obtain⟨vs',refs,h3,h4,h⟩:=nS ho h
 simp only[leave,h1,h2,h3]
 split at h
 · rename_i v
   exact⟨_,by simp[h4],h⟩
 · rename_i hn
   refine⟨⟨.tuple vs',outs⟩,?_,h⟩
   split
   · rename_i v rs' heq
     injection heq with e1;injection e1 with e1 e2
     exact absurd e1 (by intro hh;exact hn v hh)
   · rename_i YM rs2 heq
     injection heq with e1;injection e1 with e1 e2
     subst e1 e2
     simp[h4]
   · rename_i heq;simp at heq
def ja:Nat→List V→List (Nat×V)
 | _,[]=> []
 | i,.msl _ _ off len::as=> (i,.sl i 0 off len)::ja (i+1) as
 | i,.mptr _ _ idx off::as=> (i,.ptr i 0 idx off)::ja (i+1) as
 | i,v::as=> (i,v)::ja (i+1) as
def jb:Nat→List V→List (Nat×Obj)
 | _,[]=> []
 | i,.msl sz es _ _::as=> (i,{gen:=0,sz,arr:=true,fz:=false,es:=some es})::jb (i+1) as
 | i,.mptr sz es _ _::as=> (i,{gen:=0,sz,arr:=false,fz:=false,es:=some es})::jb (i+1) as
 | i,_::as=>jb (i+1) as
def u4 (args:List V):SS:=⟨ja 0 args,jb 0 args⟩
theorem tH: ∀ (as pre:List V) (t:Nat) (v:V),lk (ja pre.length as) t=some v→(enter (pre++as)).T t=v
 | [],_,_,_,h=>by simp[ja,lk] at h
 | a::as,pre,t,v,h=>by
   have ih:=tH as (pre++[a]) t v
   simp only[List.length_append,List.length_cons,List.length_nil,Nat.zero_add,List.append_assoc,List.singleton_append] at ih
   have key: ∀x,lk ((pre.length,x)::ja (pre.length+1) as) t=some v→(enter (pre++a::as)).T pre.length=x→(enter (pre++a::as)).T t=v:=by
    intro x hx hv
    rw[jI] at hx
    by_cases e:pre.length=t
    · simp only[e,if_true,Option.some.injEq] at hx;rw[←hx,←hv,e]
    · simp only[e,if_false] at hx;exact ih hx
   have hg: (pre++a::as)[pre.length]? =some a:=by simp
   cases a
   case msl=>exact key _ (by simpa [ja] using h) (by simp[enter,hg])
   case mptr=>exact key _ (by simpa [ja] using h) (by simp[enter,hg])
   all_goals exact key _ (by simpa [ja] using h) (by simp[enter,hg])
theorem tI: ∀ (as pre:List V) (t:Nat) (v:Obj),lk (jb pre.length as) t=some v→(enter (pre++as)).O t=v
 | [],_,_,_,h=>by simp[jb,lk] at h
 | a::as,pre,t,v,h=>by
   have ih:=tI as (pre++[a]) t v
   simp only[List.length_append,List.length_cons,List.length_nil,Nat.zero_add,List.append_assoc,List.singleton_append] at ih
   have key: ∀x,lk ((pre.length,x)::jb (pre.length+1) as) t=some v→(enter (pre++a::as)).O pre.length=x→(enter (pre++a::as)).O t=v:=by
    intro x hx hv
    rw[jI] at hx
    by_cases e:pre.length=t
    · simp only[e,if_true,Option.some.injEq] at hx;rw[←hx,←hv,e]
    · simp only[e,if_false] at hx;exact ih hx
   have hg: (pre++a::as)[pre.length]? =some a:=by simp
   cases a
   case msl=>exact key _ (by simpa [jb] using h) (by simp[enter,hg])
   case mptr=>exact key _ (by simpa [jb] using h) (by simp[enter,hg])
   all_goals exact ih (by simpa [jb] using h)
theorem AQ (args:List V): (u4 args).On (enter args):=
 ⟨fun t v h=>tH args [] t v h,fun r o h=>tI args [] r o h⟩
theorem Ev.bT {f:Nat} {af:aD} {args:List V} {R:eS→Prop} (hf:E.fn f=some af) (hx:E.ext f args=none) (hl:args.length=af.nparams)
  (h:oT E af.body (u4 args) (v7 af.results args R)) (ht:af.tag=none:=by rfl) (hh:E.hyb f=none:=by rfl): ∃res,Ev E f args res∧R res:=by
 obtain⟨n,e,σ',h1,S',h2,h3⟩:=ct h (AQ args)
 have key: ∀ {e},exec E n af.body (enter args)=some (e,σ')→(e= .normal∨e= .ret)→pq af.results args S' R→ ∃res,Ev E f args res∧R res:=by
  intro e h1 he UU
  obtain⟨res,h4,h5⟩:=uZ h2 UU
  refine⟨res,⟨n,?_⟩,h5⟩
  unfold call cK
  rw[hh];simp only[iX]
  rw[hx];simp only[hf,hl,if_true,ht,h1]
  rcases he with rfl| rfl<;>exact h4
 cases e with
 | normal=>exact key h1 (.inl rfl) h3
 | ret=>exact key h1 (.inr rfl) h3
 | exit id=>exact h3.elim
theorem Ev.bY {f:Nat} {af:aD} {args:List V} {res:eS} (hf:E.fn f=some af) (hx:E.ext f args=none) (hl:args.length=af.nparams)
  (h:oT E af.body (u4 args) (v7 af.results args (· =res))) (ht:af.tag=none:=by rfl) (hh:E.hyb f=none:=by rfl):Ev E f args res:=by
 obtain⟨r,h1,rfl⟩:=Ev.bT hf hx hl h ht hh
 exact h1
end
end Go.AM
namespace Go.AM
abbrev v8:=List (Nat×List V×eS)
def CD (tab:v8) (C:aO):aO:=fun f as=>match tab.find? (fun p=>Nat.beq p.1 f &&V.ki p.2.1 as) with
 | some p=>some p.2.2
 | none=>C f as
def tJ (E:Env) (tab:v8):Nat→an→St→Option (aP×St)
 | 0=>fun _ _=>none
 | n+1=>aA E (CD tab (cK E (tJ E tab n))) (tJ E tab n)
def v9 (E:Env) (tab:v8) (n:Nat):aO:=cK E (tJ E tab n)
theorem wb {E:Env}: ∀tab:v8,(∀p ∈ tab,Ev E p.1 p.2.1 p.2.2)→ ∃M,∀p ∈ tab,call E M p.1 p.2.1=some p.2.2
 | [],_=> ⟨0,by simp⟩
 | p::tab,h=>by
   obtain⟨M,hM⟩:=wb tab fun q hq=>h q (by simp[hq])
   obtain⟨m,hm⟩:=h p (by simp)
   refine⟨max M m,fun q hq=> ?_⟩
   rcases List.mem_cons.1 hq with rfl| hq
   · exact di (Nat.le_max_right ..) _ _ _ hm
   · exact di (Nat.le_max_left ..) _ _ _ (hM q hq)
theorem zT {E:Env} {tab:v8} {M:Nat} (hM: ∀p ∈ tab,call E M p.1 p.2.1=some p.2.2): ∀n,HM (tJ E tab n) (exec E (M+n))
 | 0=>by intro c σ x e;simp[tJ] at e
 | n+1=>by
   have ih:=zT hM n
   have hC:Ck (CD tab (cK E (tJ E tab n))) (call E (M+n)):=by
    intro f as r e
    unfold CD at e
    split at e
    · rename_i p hp
      injection e with e;subst e
      have h1:=List.find?_some hp
      have h2:=List.mem_of_find?_eq_some hp
      simp only[Bool.and_eq_true,Nat.beq_eq] at h1
      have h3:=V.eA h1.2
      rw[←h1.1,←h3]
      exact di (Nat.le_add_right ..) _ _ _ (hM p h2)
    · exact fL ih _ _ _ e
   have:=mb (E:=E) hC ih
   intro c σ x e
   exact this _ _ _ e
theorem Ev.EY {E:Env} {tab:v8} (h: ∀p ∈ tab,Ev E p.1 p.2.1 p.2.2) {n f:Nat} {as:List V} {r:eS} (e:v9 E tab n f as=some r):Ev E f as r:=by
 obtain⟨M,hM⟩:=wb tab h
 exact⟨M+n,fL (zT hM n) _ _ _ e⟩
end Go.AM
