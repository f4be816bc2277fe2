/- Texts of the proof. -/
import Derived.Test.YtgjbecccmiehkaaGreatDefs
import Derived.Attr
set_option linter.unusedSimpArgs false
set_option linter.unusedVariables false
namespace Go.AM
def FF (C C':aQ):Prop:= ∀f au r,C f au=some r→C' f au=some r
theorem Act.gR {C C':aQ} (h:FF C C'): ∀ (a:Act) (σ:St) (r:V×St),a.run C σ=some r→a.run C' σ=some r
 | .done v,σ,r,e=>by simpa [Act.run] using e
 | .fail,σ,r,e=>by simp[Act.run] at e
 | .kq t k,σ,r,e=>by simp only[Act.run] at e ⊢;exact Act.gR h _ _ _ e
 | .bn t k,σ,r,e=>by simp only[Act.run] at e ⊢;exact Act.gR h _ _ _ e
 | .bl t o k,σ,r,e=>by simp only[Act.run] at e ⊢;exact Act.gR h _ _ _ e
 | .call f au k,σ,r,e=>by
   simp only[Act.run] at e ⊢
   split at e
   ·rename_i res gg
    rw[h f au res gg]
    exact Act.gR h _ _ _ e
   ·simp at e
theorem Act.gh {C C':aQ} (h:FF C C'): ∀ (a:Act) (σ:St) (r:V×St),a.run C σ=some r→a.b5 C' σ=a.b5 C σ
 | .done v,σ,r,e=>by simp[Act.b5]
 | .fail,σ,r,e=>by simp[Act.run] at e
 | .kq t k,σ,r,e=>by simp only[Act.run] at e;simp only[Act.b5];rw[Act.gh h _ _ _ e]
 | .bn t k,σ,r,e=>by simp only[Act.run] at e;simp only[Act.b5];rw[Act.gh h _ _ _ e]
 | .bl t o k,σ,r,e=>by simp only[Act.run] at e;simp only[Act.b5];rw[Act.gh h _ _ _ e]
 | .call f au k,σ,r,e=>by
   simp only[Act.run] at e
   simp only[Act.b5]
   split at e
   ·rename_i res gg
    rw[h f au res gg]
    simp only
    exact Act.gh h _ _ _ e
   ·simp at e
theorem tL {E:Env} {C C':aQ} (h:FF C C') {o:bC} {σ σ':St} (e:dc E C o σ=some σ'):dc E C' o σ=some σ':=by
 unfold dc at e ⊢
 split at e
 ·rename_i v σ1 hr
  rw[Act.gR h _ _ _ hr];exact e
 ·simp at e
theorem mg {E:Env} {C C':aQ} (h:FF C C'): ∀ {os:List bC} {σ σ':St},fo E C os σ=some σ'→fo E C' os σ=some σ'
 | [],_,_,e=>by simpa [fo] using e
 | o::os,_,_,e=>by
   simp only[fo] at e ⊢
   split at e
   ·rename_i σ1 h1
    rw[tL h h1]
    exact mg h e
   ·simp at e
theorem vt {E:Env} {C C':aQ} (h:FF C C') {o:bC} {σ σ':St} (e:dc E C o σ=some σ'):cj E C' o σ=cj E C o σ:=by
 unfold dc at e
 split at e
 ·rename_i v σ1 hr
  simp only[cj,Act.gh h _ _ _ hr]
 ·simp at e
theorem j9 {E:Env} {C C':aQ} (h:FF C C'): ∀ {os:List bC} {bE:List dn} {before:List (List Nat)} {σ σ':St},df E C os bE before σ=some σ'→df E C' os bE before σ=some σ'
 | [],_,_,_,_,e=>by simpa [df] using e
 | o::os,bE,before,σ,_,e=>by
   simp only[df] at e ⊢
   split at e
   ·rename_i hc
    split at e
    ·rename_i σ1 h1
     rw[vt h h1,tL h h1,if_pos hc]
     exact j9 h e
    ·simp at e
   ·simp at e
def La (r r':aM→St→Option (aN×St)):Prop:= ∀c σ x,r c σ=some x→r' c σ=some x
theorem r7 {E:Env} {r r':aM→St→Option (aN×St)} (h:La r r'):FF (lh E r) (lh E r'):=by
 intro f au res e
 unfold lh at e ⊢
 split at e
 ·exact e
 ·split at e
  ·split at e
   ·rename_i hl
    rw[if_pos hl]
    split at e
    ·split at e
     ·rename_i σ hx;rw[h _ _ _ hx];exact e
     ·rename_i σ hx;rw[h _ _ _ hx];exact e
     ·simp at e
    ·split at e
     ·rename_i hp
      rw[if_pos hp]
      split at e
      ·rename_i σ hx;rw[h _ _ _ hx];exact e
      ·rename_i σ hx;rw[h _ _ _ hx];exact e
      ·simp at e
     ·simp at e
   ·simp at e
  ·simp at e
theorem gH {E:Env} {r r':aM→St→Option (aN×St)} (h:La r r'):FF (cX E r) (cX E r'):=by
 intro f au res e
 unfold cX at e ⊢
 split at e
 ·rename_i g hg
  exact E.mono f g hg _ _ (r7 h) _ _ e
 ·exact r7 h _ _ _ e
theorem nY {E:Env} {C C':aQ} (hC:FF C C') {r r':aM→St→Option (aN×St)} (h:La r r'):La (ar E C r) (ar E C' r'):=by
 intro c σ x e
 cases c with
 | skip=>simpa [ar] using e
 | region ops=>
   simp only[ar,Zq] at e ⊢
   obtain⟨σ1,h1,h2⟩:=e
   exact⟨σ1,mg hC h1,h2⟩
 | drawn ops=>
   simp only[ar,Zq] at e ⊢
   obtain⟨σ1,h1,h2⟩:=e
   exact⟨σ1,j9 hC h1,h2⟩
 | seq a b=>
   simp only[ar] at e ⊢
   split at e
   ·rename_i σ1 h1;rw[h _ _ _ h1];exact h _ _ _ e
   ·rename_i hn
    rw[h _ _ _ e]
    rcases x with⟨ex,σ1⟩
    cases ex with
    | normal=>exact absurd e (by simpa using hn σ1)
    | _=>rfl
 | cond c a b=>
   simp only[ar] at e ⊢
   split at e
   ·exact h _ _ _ e
   ·exact h _ _ _ e
   ·simp at e
 | block id b=>
   simp only[ar] at e ⊢
   split at e
   ·rename_i jF σ1 h1;rw[h _ _ _ h1];exact e
   ·rename_i hn
    rw[h _ _ _ e]
    rcases x with⟨ex,σ1⟩
    cases ex with
    | exit jF=>exact absurd e (by simpa using hn jF σ1)
    | _=>rfl
 | loop b=>
   simp only[ar] at e ⊢
   split at e
   ·rename_i σ1 h1;rw[h _ _ _ h1];exact h _ _ _ e
   ·rename_i hn
    rw[h _ _ _ e]
    rcases x with⟨ex,σ1⟩
    cases ex with
    | normal=>exact absurd e (by simpa using hn σ1)
    | _=>rfl
 | exit id=>simpa [ar] using e
 | ret=>simpa [ar] using e
 | scope b=>simp only[ar] at e ⊢;exact h _ _ _ e
 | bad=>simp[ar] at e
 | mh fx ps a b=>
   simp only[ar] at e ⊢
   split at e
   ·rename_i g caps hg
    try simp only[hg]
    split at e
    ·rename_i xs CY
     try simp only[CY]
     split at e
     ·rename_i hc
      try rw[if_pos hc]
      exact qZ h e
     ·simp at e
    ·simp at e
   ·simp at e
 | keys it nx ne id kT kO hd b l=>
   simp only[ar] at e ⊢
   split at e
   ·rename_i ri g hT
    try simp only[hT]
    split at e
    ·rename_i es hO
     try simp only[hO]
     split at e
     ·rename_i hc
      try rw[if_pos hc]
      split at e
      ·rename_i σ1 σs hr
       rw[lj (fun p y hy=>nq h hy) hr]
       exact e
      ·simp at e
     ·simp at e
    ·simp at e
   ·simp at e
theorem vS {E:Env}: ∀n,La (exec E n) (exec E (n+1))
 | 0=>by intro c σ x e;simp[exec] at e
 | n+1=>by
   have ih:=vS (E:=E) n
   have:=nY (E:=E) (gH (E:=E) ih) ih
   intro c σ x e
   simp only[exec] at e ⊢
   exact this _ _ _ e
theorem bV {E:Env} {n m:Nat} (h:n≤m):La (exec E n) (exec E m):=by
 induction h with
 | refl=>exact fun _ _ _ e=>e
 | step _ ih=>exact fun c σ x e=>vS _ _ _ _ (ih c σ x e)
theorem dv {E:Env} {n m:Nat} (h:n≤m):FF (call E n) (call E m):=gH (bV h)
def Ev (E:Env) (f:Nat) (args:List V) (res:eV):Prop:= ∃n,call E n f args=some res
def St.bl (σ:St) (r:Nat) (o:Obj):St:={σ with O:=cC σ.O r o}
inductive Tg {α β:Type} (a:α) (b:β):Type
 | mk
def Rn (E:Env) (a:Act) (σ:St) (Q:V→St→Prop) (_:Tg σ Q:= .mk):Prop:= ∃n v σ',a.run (call E n) σ=some (v,σ')∧Q v σ'
def Kd (E:Env) (os:List bC) (σ:St) (Q:St→Prop) (_:Tg os (σ,Q):= .mk):Prop:= ∃n σ',fo E (call E n) os σ=some σ'∧Q σ'
def kn (E:Env) (c:aM) (σ:St) (Q:aN→St→Prop) (_:Tg c (σ,Q):= .mk):Prop:= ∃n e σ',exec E n c σ=some (e,σ')∧Q e σ'
def tx (E:Env) (a:Act) (σ:St) (Q:V→St→List Loc→List Loc→Prop) (_:Tg σ Q:= .mk):Prop:= ∃n v σ',a.run (call E n) σ=some (v,σ')∧Q v σ' (a.b5 (call E n) σ).reads (a.b5 (call E n) σ).writes
def Ke (E:Env) (bE:List dn) (before:List (List Nat)) (os:List bC) (σ:St) (Q:St→Prop):Prop:= ∃n σ',df E (call E n) os bE before σ=some σ'∧Q σ'
section
variable {E:Env} {σ:St}
theorem IH {Q:St→Prop}:Kd E [] σ Q=Q σ:=by simp[Kd,fo]
theorem FG {o:bC} {os:List bC} {Q:St→Prop}:Kd E (o::os) σ Q=Rn E (bX E o) σ fun v σ'=>Kd E os (σ'.put o.dst v) Q:=by
 simp only[Kd,Rn,fo,dc,eq_iff_iff]
 constructor
 ·rintro⟨n,σ2,h,q⟩
  split at h
  ·rename_i σ1 h1
   split at h1
   ·rename_i v σ0 h0
    injection h1 with h1;subst h1
    exact⟨n,v,σ0,h0,n,σ2,h,q⟩
   ·simp at h1
  ·simp at h
 ·rintro⟨n,v,σ0,h0,m,σ2,h,q⟩
  refine⟨max n m,σ2,?_,q⟩
  rw[Act.gR (dv (ZX n m)) _ _ _ h0]
  exact mg (dv (ZO n m)) h
theorem FH {v:V} {Q:V→St→List Loc→List Loc→Prop}:tx E (.done v) σ Q=Q v σ [] []:=by
 simp only[tx,Act.run,Act.b5,eq_iff_iff]
 constructor
 ·rintro⟨_,_,_,h,q⟩;injection h with h;injection h with h1 h2;subst h1 h2;exact q
 ·exact fun q=> ⟨0,_,_,rfl,q⟩
theorem FI {t:Nat} {k:V→Act} {Q:V→St→List Loc→List Loc→Prop}:tx E (.kq t k) σ Q=tx E (k (σ.T t)) σ fun v σ' r w=>Q v σ' (.t t::r) w:=by
 simp[tx,Act.run,Act.b5]
theorem yU {t:Nat} {k:Obj→Act} {Q:V→St→List Loc→List Loc→Prop}:tx E (.bn t k) σ Q=tx E (k (σ.O t)) σ fun v σ' r w=>Q v σ' (.o t::r) w:=by
 simp[tx,Act.run,Act.b5]
theorem FJ {t:Nat} {o:Obj} {k:Act} {Q:V→St→List Loc→List Loc→Prop}:tx E (.bl t o k) σ Q=tx E k (σ.bl t o) fun v σ' r w=>Q v σ' r (.o t::w):=by
 simp[tx,Act.run,Act.b5,St.bl]
theorem FK {f:Nat} {au:List V} {k:eV→Act} {Q:V→St→List Loc→List Loc→Prop}:tx E (.call f au k) σ Q= ∃res,Ev E f au res∧tx E (k res) σ Q:=by
 simp only[tx,eq_iff_iff]
 constructor
 ·rintro⟨n,v,σ',h,q⟩
  simp only[Act.run,Act.b5] at h q
  split at h
  ·rename_i res hr
   simp only[hr] at q
   exact⟨res,⟨n,hr⟩,n,v,σ',h,q⟩
  ·simp at h
 ·rintro⟨res,⟨n,hn⟩,m,v,σ',h,q⟩
  have e1:=dv (E:=E) (ZX n m) _ _ _ hn
  have e2:=Act.gR (dv (E:=E) (ZO n m)) _ _ _ h
  have e3:=Act.gh (dv (E:=E) (ZO n m)) _ _ _ h
  refine⟨max n m,v,σ',?_,?_⟩
  ·simp only[Act.run,e1];exact e2
  ·simp only[Act.b5,e1,e3];exact q
theorem II {bE:List dn} {before:List (List Nat)} {Q:St→Prop}:Ke E bE before [] σ Q=Q σ:=by simp[Ke,df]
theorem FL {bE:List dn} {before:List (List Nat)} {o:bC} {os:List bC} {Q:St→Prop}:
  Ke E bE before (o::os) σ Q=tx E (bX E o) σ fun v σ' r w=>
   (fits bE (closure before o.pre) (dt o.op ⟨r,(match o.dst with| some d=> [.t d] | none=> [])++w⟩) bE.length &&o.pre.all (· <bE.length))=true∧
   Ke E (bE++[dt o.op ⟨r,(match o.dst with| some d=> [.t d] | none=> [])++w⟩]) (before++[closure before o.pre]) os (σ'.put o.dst v) Q:=by
 have key: ∀n,df E (call E n) (o::os) bE before σ=if (fits bE (closure before o.pre) (cj E (call E n) o σ) bE.length &&o.pre.all (· <bE.length))=true then
   (match dc E (call E n) o σ with| some σ'=>df E (call E n) os (bE++[cj E (call E n) o σ]) (before++[closure before o.pre]) σ'| none=>none) else none:=fun n=>rfl
 have NU: ∀n v σ0,(bX E o).run (call E n) σ=some (v,σ0)→dc E (call E n) o σ=some (σ0.put o.dst v):=fun n v σ0 h=>by simp only[dc,h]
 simp only[Ke,tx,eq_iff_iff]
 constructor
 ·rintro⟨n,σ2,h,q⟩
  rw[key n] at h
  by_cases hc: (fits bE (closure before o.pre) (cj E (call E n) o σ) bE.length &&o.pre.all (· <bE.length))=true
  ·rw[if_pos hc] at h
   cases h0: (bX E o).run (call E n) σ with
   | none=>simp[dc,h0] at h
   | some p=>
     obtain⟨v,σ0⟩:=p
     rw[NU n v σ0 h0] at h
     exact⟨n,v,σ0,h0,hc,n,σ2,h,q⟩
  ·rw[if_neg hc] at h;simp at h
 ·rintro⟨n,v,σ0,h0,hc,m,σ2,h,q⟩
  refine⟨max n m,σ2,?_,q⟩
  have e3:cj E (call E (max n m)) o σ=cj E (call E n) o σ:=by
   simp only[cj,Act.gh (dv (E:=E) (ZX n m)) _ _ _ h0]
  have CZ: (fits bE (closure before o.pre) (cj E (call E n) o σ) bE.length &&o.pre.all (· <bE.length))=true:=hc
  rw[key,e3,if_pos CZ,NU _ v σ0 (Act.gR (dv (ZX n m)) _ _ _ h0)]
  exact j9 (dv (ZO n m)) h
def andThen (Q:aN→St→Prop) (k:St→Prop) (_:Tg Q k:= .mk):aN→St→Prop
 | .normal,σ=>k σ
 | .exit id,σ=>Q (.exit id) σ
 | .ret,σ=>Q .ret σ
def C0 (id:Nat) (Q:aN→St→Prop) (_:Tg id Q:= .mk):aN→St→Prop
 | .exit jF,σ=>if jF=id then Q .normal σ else Q (.exit jF) σ
 | .normal,σ=>Q .normal σ
 | .ret,σ=>Q .ret σ
theorem dP {c:aM} {Q Q':aN→St→Prop} (h:kn E c σ Q) (k: ∀e σ',Q e σ'→Q' e σ'):kn E c σ Q':=by
 obtain⟨n,e,σ',h1,h2⟩:=h
 exact⟨n,e,σ',h1,k _ _ h2⟩
theorem tM {Q:aN→St→Prop}:kn E .skip σ Q=Q .normal σ:=by
 simp only[kn,eq_iff_iff]
 constructor
 ·rintro⟨n,e,σ',h,q⟩
  cases n<;>simp[exec,ar] at h
  obtain⟨rfl,rfl⟩:=h;exact q
 ·exact fun q=> ⟨1,_,_,by simp[exec,ar],q⟩
theorem FM {id:Nat} {Q:aN→St→Prop}:kn E (.exit id) σ Q=Q (.exit id) σ:=by
 simp only[kn,eq_iff_iff]
 constructor
 ·rintro⟨n,e,σ',h,q⟩
  cases n<;>simp[exec,ar] at h
  obtain⟨rfl,rfl⟩:=h;exact q
 ·exact fun q=> ⟨1,_,_,by simp[exec,ar],q⟩
theorem IJ {Q:aN→St→Prop}:kn E .ret σ Q=Q .ret σ:=by
 simp only[kn,eq_iff_iff]
 constructor
 ·rintro⟨n,e,σ',h,q⟩
  cases n<;>simp[exec,ar] at h
  obtain⟨rfl,rfl⟩:=h;exact q
 ·exact fun q=> ⟨1,_,_,by simp[exec,ar],q⟩
theorem D1 {b:aM} {Q:aN→St→Prop}:kn E (.scope b) σ Q=kn E b σ Q:=by
 simp only[kn,eq_iff_iff]
 constructor
 ·rintro⟨n,e,σ',h,q⟩
  cases n with
  | zero=>simp[exec] at h
  | succ n=>simp only[exec,ar] at h;exact⟨n,e,σ',h,q⟩
 ·rintro⟨n,e,σ',h,q⟩
  exact⟨n+1,e,σ',by simpa only[exec,ar] using h,q⟩
theorem Be {ops:List bC} {Q:aN→St→Prop}:kn E (.region ops) σ Q=Kd E ops σ (Q .normal):=by
 simp only[kn,Kd,eq_iff_iff]
 constructor
 ·rintro⟨n,e,σ',h,q⟩
  cases n with
  | zero=>simp[exec] at h
  | succ n=>
    simp only[exec,ar,Zq] at h
    obtain⟨σ1,h1,h2⟩:=h
    injection h2 with h2 h3
    subst h2 h3
    exact⟨n,_,h1,q⟩
 ·rintro⟨n,σ',h,q⟩
  exact⟨n+1,_,σ',by simp only[exec,ar,Zq];exact⟨σ',h,rfl⟩,q⟩
theorem D2 {ops:List bC} {Q:aN→St→Prop}:kn E (.drawn ops) σ Q=Ke E [] [] ops σ (Q .normal):=by
 simp only[kn,Ke,eq_iff_iff]
 constructor
 ·rintro⟨n,e,σ',h,q⟩
  cases n with
  | zero=>simp[exec] at h
  | succ n=>
    simp only[exec,ar,Zq] at h
    obtain⟨σ1,h1,h2⟩:=h
    injection h2 with h2 h3
    subst h2 h3
    exact⟨n,_,h1,q⟩
 ·rintro⟨n,σ',h,q⟩
  exact⟨n+1,_,σ',by simp only[exec,ar,Zq];exact⟨σ',h,rfl⟩,q⟩
theorem C1 {a b:aM} {Q:aN→St→Prop}:kn E (.seq a b) σ Q=kn E a σ (andThen Q fun σ'=>kn E b σ' Q):=by
 simp only[kn,eq_iff_iff]
 constructor
 ·rintro⟨n,e,σ',h,q⟩
  cases n with
  | zero=>simp[exec] at h
  | succ n=>
    simp only[exec,ar] at h
    split at h
    ·rename_i σ1 h1
     exact⟨n,_,_,h1,n,e,σ',h,q⟩
    ·rename_i hn
     refine⟨n,e,σ',h,?_⟩
     cases e with
     | normal=>exact absurd h (by simpa using hn σ')
     | exit id=>exact q
     | ret=>exact q
 ·rintro⟨n,e,σ1,h,q⟩
  cases e with
  | normal=>
    obtain⟨m,e,σ',h',q⟩:=q
    refine⟨max n m+1,e,σ',?_,q⟩
    simp only[exec,ar,bV (ZX n m) _ _ _ h]
    exact bV (ZO n m) _ _ _ h'
  | exit id=>exact⟨n+1,_,_,by simp only[exec,ar,h],q⟩
  | ret=>exact⟨n+1,_,_,by simp only[exec,ar,h],q⟩
theorem FN {c:aD} {a b:aM} {Q:aN→St→Prop}:kn E (.cond c a b) σ Q=match aT σ c with| .bool true=>kn E a σ Q| .bool false=>kn E b σ Q| _=>False:=by
 simp only[kn,eq_iff_iff]
 constructor
 ·rintro⟨n,e,σ',h,q⟩
  cases n with
  | zero=>simp[exec] at h
  | succ n=>
    simp only[exec,ar] at h
    split at h
    ·rename_i he;simp only[he];exact⟨n,e,σ',h,q⟩
    ·rename_i he;simp only[he];exact⟨n,e,σ',h,q⟩
    ·simp at h
 ·intro h
  split at h
  · rename_i he
    obtain⟨n,e,σ',h,q⟩:=h
    exact⟨n+1,e,σ',by simp only[exec,ar,he];exact h,q⟩
  · rename_i he
    obtain⟨n,e,σ',h,q⟩:=h
    exact⟨n+1,e,σ',by simp only[exec,ar,he];exact h,q⟩
  ·exact h.elim
theorem D3 {id:Nat} {b:aM} {Q:aN→St→Prop}:kn E (.block id b) σ Q=kn E b σ (C0 id Q):=by
 simp only[kn,eq_iff_iff]
 constructor
 ·rintro⟨n,e,σ',h,q⟩
  cases n with
  | zero=>simp[exec] at h
  | succ n=>
    simp only[exec,ar] at h
    split at h
    ·rename_i jF σ1 h1
     refine⟨n,_,_,h1,?_⟩
     simp only[C0]
     split at h
     ·rename_i hi
      simp only[Zr,Zw] at h
      obtain⟨rfl,rfl⟩:=h
      simp only[hi,if_true];exact q
     ·rename_i hi
      simp only[Zr,Zw] at h
      obtain⟨rfl,rfl⟩:=h
      simp only[hi,if_false];exact q
    ·rename_i hn
     refine⟨n,e,σ',h,?_⟩
     cases e with
     | exit jF=>exact absurd h (by simpa using hn jF σ')
     | normal=>exact q
     | ret=>exact q
 ·rintro⟨n,e,σ1,h,q⟩
  cases e with
  | exit jF=>
    simp only[C0] at q
    by_cases hi:jF=id
    ·simp only[hi,if_true] at q
     exact⟨n+1,_,_,by simp only[exec,ar,h,hi,if_true],q⟩
    ·simp only[hi,if_false] at q
     exact⟨n+1,_,_,by simp only[exec,ar,h,hi,if_false],q⟩
  | normal=>exact⟨n+1,_,_,by simp only[exec,ar,h],q⟩
  | ret=>exact⟨n+1,_,_,by simp only[exec,ar,h],q⟩
theorem FO {b:aM} {Q:aN→St→Prop}:kn E (.loop b) σ Q=kn E b σ (andThen Q fun σ'=>kn E (.loop b) σ' Q):=by
 simp only[kn,eq_iff_iff]
 constructor
 ·rintro⟨n,e,σ',h,q⟩
  cases n with
  | zero=>simp[exec] at h
  | succ n=>
    simp only[exec,ar] at h
    split at h
    ·rename_i σ1 h1
     exact⟨n,_,_,h1,n,e,σ',h,q⟩
    ·rename_i hn
     refine⟨n,e,σ',h,?_⟩
     cases e with
     | normal=>exact absurd h (by simpa using hn σ')
     | exit id=>exact q
     | ret=>exact q
 ·rintro⟨n,e,σ1,h,q⟩
  cases e with
  | normal=>
    obtain⟨m,e,σ',h',q⟩:=q
    refine⟨max n m+1,e,σ',?_,q⟩
    simp only[exec,ar,bV (ZX n m) _ _ _ h]
    exact bV (ZO n m) _ _ _ h'
  | exit id=>exact⟨n+1,_,_,by simp only[exec,ar,h],q⟩
  | ret=>exact⟨n+1,_,_,by simp only[exec,ar,h],q⟩
theorem r8 {b:aM} {Q:aN→St→Prop} (I:Nat→St→Prop) (hI: ∀k σ,I k σ→kn E b σ (andThen Q fun σ'=> ∃j,j<k∧I j σ')):
   ∀ (k:Nat) (σ:St),I k σ→kn E (.loop b) σ Q:=by
 intro k
 induction k using Nat.strongRecOn with
 | _ k ih=>
   intro σ h
   rw[FO]
   refine dP (hI k σ h) fun e σ' he=> ?_
   cases e with
   | normal=>obtain⟨j,hj,h'⟩:=he;exact ih j hj σ' h'
   | exit id=>exact he
   | ret=>exact he
def fin (rs:List pI) (args:List V) (res:eV):aN→St→Prop
 | .exit _,_=>False
 | .normal,σ=>leave ⟨0,0,[],rs,.skip,none⟩ args σ=some res
 | .ret,σ=>leave ⟨0,0,[],rs,.skip,none⟩ args σ=some res
theorem Ev.ext {f:Nat} {args:List V} {res:eV} (h:E.ext f args=some res) (hh:E.hyb f=none:=by rfl):Ev E f args res:=⟨0,by simp[call,cX,lh,h,hh]⟩
end
end Go.AM
namespace Go.AM
section
variable {E:Env} {σ:St}
def q6 (E:Env):List bC→St→(List dn→St→Prop)→Prop
 | [],σ,Q=>Q [] σ
 | o::os,σ,Q=>tx E (bX E o) σ fun v σ' r w=>q6 E os (σ'.put o.dst v) fun fs σ''=>Q (dt o.op ⟨r,(match o.dst with| some d=> [.t d] | none=> [])++w⟩::fs) σ''
def NV (E:Env) (os:List bC) (σ:St) (Q:List dn→St→Prop) (_:Tg os (σ,Q):= .mk):Prop:=q6 E os σ Q
def Bf (d:Option Nat) (w:List Loc):List Loc:=match d with| some d=> .t d::w| none=>w
theorem IK {Q:List dn→St→Prop}:NV E [] σ Q=Q [] σ:=rfl
theorem FP {o:bC} {os:List bC} {Q:List dn→St→Prop}:NV E (o::os) σ Q=tx E (bX E o) σ fun v σ' r w=>NV E os (σ'.put o.dst v) fun fs σ''=>Q (dt o.op ⟨r,Bf o.dst w⟩::fs) σ'':=by
 have: ∀w,(match o.dst with| some d=> [Loc.t d] | none=> [])++w=Bf o.dst w:=by intro w;cases o.dst<;>rfl
 have h2: (fun (v:V) (σ':St) (r w:List Loc)=>q6 E os (σ'.put o.dst v) fun fs σ''=>Q (dt o.op ⟨r,(match o.dst with| some d=> [.t d] | none=> [])++w⟩::fs) σ'')=(fun v σ' r w=>q6 E os (σ'.put o.dst v) fun fs σ''=>Q (dt o.op ⟨r,Bf o.dst w⟩::fs) σ''):=by
  funext v σ' r w;rw[this]
 show tx E (bX E o) σ (fun (v:V) (σ':St) (r w:List Loc)=>q6 E os (σ'.put o.dst v) fun fs σ''=>Q (dt o.op ⟨r,(match o.dst with| some d=> [.t d] | none=> [])++w⟩::fs) σ'')=_
 rw[h2];rfl
def Kf:List (List Nat)→List (List Nat)→List dn→List dn→Bool
 | [],_,_,_=>true
 | p::ps,before,bE,f::rest=> (fits bE (closure before p) f bE.length &&p.all (· <bE.length)) &&Kf ps (before++[closure before p]) (bE++[f]) rest
 | _::_,_,_,[]=>false
theorem mi {a:Act} {Q Q':V→St→List Loc→List Loc→Prop} (h:tx E a σ Q) (k: ∀v σ' r w,Q v σ' r w→Q' v σ' r w):tx E a σ Q':=by
 obtain⟨n,v,σ',h1,h2⟩:=h
 exact⟨n,v,σ',h1,k _ _ _ _ h2⟩
theorem pJ: ∀ {os:List bC} {σ:St} {Q Q':List dn→St→Prop},q6 E os σ Q→(∀fs σ',Q fs σ'→Q' fs σ')→q6 E os σ Q'
 | [],_,_,_,h,k=>k _ _ h
 | o::os,_,_,_,h,k=>by
   simp only[q6] at h ⊢
   exact mi h fun v σ' r w h'=>pJ h' fun fs σ'' Wa=>k _ _ Wa
theorem FQ {Q:St→Prop}: ∀ {os:List bC} {σ:St} {bE:List dn} {before:List (List Nat)},
   q6 E os σ (fun fs σ'=>Kf (os.map (·.pre)) before bE fs=true∧Q σ')→Ke E bE before os σ Q
 | [],_,_,_,h=>by rw[II];exact h.2
 | o::os,σ,bE,before,h=>by
   rw[FL]
   simp only[q6,List.map_cons,Kf,Zt] at h
   refine mi h fun v σ' r w h'=> ?_
   have h1:q6 E os (σ'.put o.dst v) (fun fs σ''=> (fits bE (closure before o.pre) (dt o.op ⟨r,(match o.dst with| some d=> [.t d] | none=> [])++w⟩) bE.length &&o.pre.all (· <bE.length))=true):=
    pJ h' fun fs σ'' hh=>by
      have:=hh.1
      simp only[List.map_cons,Kf,Zt] at this
      simp only[Zt];exact this.1
   have const: ∀ {os:List bC} {σ:St} {p:Prop},q6 E os σ (fun _ _=>p)→p:=by
    intro os
    induction os with
    | nil=>intro σ p h;exact h
    | cons o os ih=>
      intro σ p h
      simp only[q6] at h
      obtain⟨n,v,σ',_,h2⟩:=h
      exact ih h2
   refine⟨const h1,FQ (pJ h' fun fs σ'' hh=> ⟨by have:=hh.1;simp only[List.map_cons,Kf,Zt] at this;exact this.2,hh.2⟩)⟩
theorem xh {ops:List bC} {Q:aN→St→Prop} (h:NV E ops σ (fun fs σ'=>Kf (ops.map (·.pre)) [] [] fs=true∧Q .normal σ')):kn E (.drawn ops) σ Q:=by
 rw[D2];exact FQ h
theorem yV {t:Nat}:aT σ (.tmp t)=σ.T t:=rfl
theorem vu {v:V}:aT σ (.const v)=v:=rfl
theorem gI: ∀ {cs:List V},V.al cs=true→ ∀ {x:V},x ∈ cs→x.aq=true
 | [],_,x,h=>by simp at h
 | c::cs,h,x,hx=>by
   simp only[V.al,Zt] at h
   rcases Zz.1 hx with rfl| hx
   ·exact h.1
   ·exact gI h.2 hx
theorem oP: ∀ {cs:List V},(∀x ∈ cs,V.aq x=true)→V.al cs=true
 | [],_=>rfl
 | c::cs,h=>by
   simp only[V.al,Zt]
   exact⟨h c Zm,oP fun x hx=>h x (by simp[hx])⟩
theorem fp {args:List V} (h:V.al args=true):enter args=⟨fun t=>args.getD t cY,fun _=>bk⟩:=by
 have key: ∀ (t:Nat) (a:V),args[t]? =some a→a.aq=true:=fun t a ht=>gI h (List.mem_of_getElem? ht)
 unfold enter
 congr 1
 ·funext t
  cases ha:args[t]? with
  | none=>simp[List.getD,ha]
  | some a=>have:=key t a ha;simp only[List.getD,ha,aa2];cases a<;>simp_all[V.aq]
 ·funext t
  cases ha:args[t]? with
  | none=>rfl
  | some a=>have:=key t a ha;cases a<;>simp_all[V.aq]
end
def c8 (sz lim:Nat):List V→Option eV
 | [.nils]=>some ⟨.own sz [],[]⟩
 | [.lit sz' xs]=>if sz'=sz∧xs.length≤lim then some ⟨.own sz xs,[]⟩ else none
 | _=>none
def vT:List V→Option eV
 | [.float b]=>match FloatKind.f64.format.sqrt b with
   | some r=>some ⟨.float r,[]⟩
   | none=>none
 | _=>none
theorem mj {O:Nat→Obj}: ∀ {args:List V} {i:Nat},V.al args=true→bS O i args=some []
 | [],_,_=>rfl
 | a::au,i,h=>by
   simp only[V.al,Zt] at h
   have:=mj (O:=O) (i:=i+1) h.2
   cases a<;>simp_all[bS,V.aq]
def yW (sz:Nat) (xs:List V) (v:V):Prop:=v= .lit sz xs∨v= .nils∧xs=[]
theorem yW.pure {sz:Nat} {xs:List V} {v:V} (h:yW sz xs v):v.aq=true:=by
 rcases h with rfl| ⟨rfl,_⟩ <;>rfl
theorem yW.len {sz:Nat} {xs:List V} {v:V} (h:yW sz xs v):IL v=some (.int .i64 xs.length):=by
 rcases h with rfl| ⟨rfl,rfl⟩ <;>rfl
theorem yW.lit {sz:Nat} {xs:List V}:yW sz xs (.lit sz xs):= .inl rfl
theorem yW.aF {sz:Nat} {xs:List V} {v:V} (h:yW sz xs v):v.aF=true:=by
 rcases h with rfl| ⟨rfl,_⟩ <;>rfl
def xi (sz:Nat) (v i:V):Act:=
 match v,i with
 | .sl r g off len,.int _ n=> .bn r fun o=>if 0≤n∧n<len∧o.sz=sz∧o.gen=g then .done (.ptr r g (off+n.toNat) 0) else .fail
 | .lit sz' xs,.int _ n=>if 0≤n∧sz'=sz then match xs[n.toNat]? with
    | some e=> .done (.eptr e 0)
    | none=> .fail
   else .fail
 | .litk sz' xs,.int _ n=>if 0≤n∧sz'=sz∧0 <sz then match xs[n.toNat]? with
    | some e=> .done (.epk n.toNat sz e 0)
    | none=> .fail
   else .fail
 | _,_=> .fail
theorem vv {E:Env} {sz:Nat} {x i:aD}:av E (.indexAddr sz x i)=ev x fun v=>ev i fun i=>xi sz v i:=rfl
def xj ( sz:Nat) (v:V) (l h m:Option V):Act:=
 match v with
 | .sl r g off len=> .bn r fun o=>match o.es with
   | some es=>if o.gen=g∧o.sz=sz then
      match bU 0 l,bU len h,m with
      | some l,some h,none=>if l≤h∧off+h≤es.length then .done (.sl r g (off+l) (h - l)) else .fail
      | some l,some h',some m=>match h,bU 0 (some m) with
        | some _,some m=>if l≤h'∧h'≤m∧off+m≤es.length then .done (if m=l then .nils else .any) else .fail
        | _,_=> .fail
      | _,_,_=> .fail
     else .fail
   | none=> .fail
 | v=>dq (tN sz v l h m)
theorem D4 {E:Env} {sz:Nat} {x:aD} {lo hi mx:Option aD}:av E (.slice sz x lo hi mx)=ev x fun v=>Fo lo fun l=>Fo hi fun h=>Fo mx fun m=>xj sz v l h m:=rfl
def Bg (r sz lim:Nat) (s:V) (ys:List V):Act:=
 if ys.all (aJ · sz) &&decide (0 <sz) then match s with
  | .nils=>if ys.isEmpty then .done .nils else if ys.length≤lim then
      .bn r fun o=> .bl r {gen:=o.gen+1,sz,arr:=true,fz:=false,es:=some ys} (.done (.sl r (o.gen+1) 0 ys.length)) else .fail
  | .lit sz' xs=>if ys.isEmpty then .done (.lit sz' xs) else .fail
  | .sl r' g off len=> .bn r' fun o=>match o.es with
    | some es=>if o.gen=g∧o.arr=true∧o.fz=false∧o.sz=sz∧off+len≤es.length∧len+ys.length≤lim then
        if off+len+ys.length≤es.length then
             .bl r' {o with es:=some (overwrite es (off+len) ys)} (.done (.sl r' g off (len+ys.length)))
        else
             .bl r' {o with gen:=g+1,es:=some (aw es off len++ys)} (.done (.sl r' (g+1) 0 (len+ys.length)))
      else .fail
    | none=> .fail
  | _=> .fail
  else .fail
theorem Bh {E:Env} {r sz lim:Nat} {s x:aD}:av E (.append r sz lim s x)=ev s fun s=>ev x fun x=>content sz x fun ys=>ml ys fun ys=>Bg r sz lim s ys:=rfl
theorem jd {α:Type} (f:α→V) (l:List α) (a b:Nat):AM.aw (l.map f) a b=((l.drop a).take b).map f:=by
 simp[AM.aw,List.map_take,List.map_drop]
theorem Bi {xs:List V} {n:Nat} (h:n=xs.length):AM.aw xs 0 n=xs:=by
 subst h;simp[AM.aw]
def firstIdx {α:Type} (p:α→Bool) (xs:List α):Int:=match xs.findIdx? p with
 | some i=>i
 | none=> -1
theorem mm {α:Type} {p:α→Bool} {xs:List α} {i:Nat} {x:α} (h: ∀j y,j<i→xs[j]? =some y→p y=false) (hx:xs[i]? =some x) (hp:p x=true):firstIdx p xs=i:=by
 have:xs.findIdx? p=some i:=by
  rw[aaw]
  obtain⟨hl,hv⟩:=Zs.1 hx
  refine⟨hl,by rw[hv];exact hp,fun j hj=> ?_⟩
  have:=h j _ hj (Zv Zl)
  simp[this]
 simp[firstIdx,this]
theorem firstIdx_none {α:Type} {p:α→Bool} {xs:List α} (h: ∀ (j:Nat) (y:α),xs[j]? =some y→p y=false):firstIdx p xs= -1:=by
 have:xs.findIdx? p=none:=by
  rw[List.findIdx?_eq_none_iff]
  intro x hx
  obtain⟨j,hj⟩:=ZS.1 hx
  exact h j x hj
 simp[firstIdx,this]
theorem xk (a b:Int): (a==b)=decide (a=b):=by
 by_cases h:a=b
 ·simp[h]
 ·simp[h]
theorem IM (a b:Int): (a !=b)= !decide (a=b):=by simp[bne,xk]
theorem wrap64 {n:Int} (h0: -9223372036854775808≤n) (h1:n≤9223372036854775807):IntKind.i64.wrap n=n:=by
 simp[IntKind.wrap,IntKind.bits,IntKind.signed]
 omega
end Go.AM
namespace Go.AM
section
variable {α:Type}
def Bj (le:α→α→Bool) (x:α):List α→List α
 | []=> [x]
 | y::ys=>if le x y then x::y::ys else y::Bj le x ys
def lT (le:α→α→Bool):List α→List α
 | []=> []
 | x::xs=>Bj le x (lT le xs)
theorem q7 (le:α→α→Bool) (x:α): ∀l:List α,(Bj le x l).Perm (x::l)
 | []=> .refl _
 | y::ys=>by
   unfold Bj
   split
   ·exact .refl _
   ·exact((q7 le x ys).cons y).trans (.swap x y ys)
theorem oQ (le:α→α→Bool): ∀l:List α,(lT le l).Perm l
 | []=> .refl _
 | x::xs=> (q7 le x _).trans ((oQ le xs).cons x)
theorem r9 {le:α→α→Bool} (ht: ∀a b c,le a b=true→le b c=true→le a c=true) (hl: ∀a b,(le a b || le b a)=true) (x:α): ∀ {l:List α},l.Pairwise (le · ·)→(Bj le x l).Pairwise (le · ·)
 | [],_=>by simp[Bj]
 | y::ys,h=>by
   unfold Bj
   split
   ·rename_i Fq
    rw[List.pairwise_cons] at h ⊢
    exact⟨fun z hz=>by
     rcases Zz.1 hz with rfl| hz
     ·exact Fq
     ·exact ht _ _ _ Fq (h.1 z hz),List.pairwise_cons.2 h⟩
   ·rename_i Fq
    rw[List.pairwise_cons] at h ⊢
    refine⟨fun z hz=> ?_,r9 ht hl x h.2⟩
    have hz:=(q7 le x ys).mem_iff.1 hz
    rcases Zz.1 hz with rfl| hz
    ·have:=hl z y
     simp only[aaH] at this
     exact this.resolve_left Fq
    ·exact h.1 z hz
theorem ll {le:α→α→Bool} (ht: ∀a b c,le a b=true→le b c=true→le a c=true) (hl: ∀a b,(le a b || le b a)=true): ∀l:List α,(lT le l).Pairwise (le · ·)
 | []=>by simp[lT]
 | x::xs=>r9 ht hl x (ll ht hl xs)
theorem D5 {le:α→α→Bool} (ha: ∀a b,le a b=true→le b a=true→a=b): ∀ {l l':List α},l.Perm l'→l.Pairwise (le · ·)→l'.Pairwise (le · ·)→l=l':=by
 intro l l' hp h h'
 exact hp.eq_of_pairwise (fun a b _ _ h1 h2=>ha a b h1 h2) h h'
theorem td {le:α→α→Bool} (ha: ∀a b,le a b=true→le b a=true→a=b) (ht: ∀a b c,le a b=true→le b c=true→le a c=true) (hl: ∀a b,(le a b || le b a)=true) (l:List α):l.mergeSort le=lT le l:=
 D5 ha ((List.mergeSort_perm l le).trans (oQ le l).symm) (List.pairwise_mergeSort ht hl l) (ll ht hl l)
end
def It (x y:Int):Bool:=decide (x≤y)
def fV (l:List Int):List Int:=lT It l
theorem yX (l:List Int): (l.mergeSort fun x y=>decide (x≤y))=fV l:=
 td (le:=It) (fun a b h1 h2=>by simp[It] at h1 h2;omega) (fun a b c h1 h2=>by simp[It] at h1 h2 ⊢;omega) (fun a b=>by simp[It];omega) l
def ln:List V→Option (List Int)
 | []=>some []
 | .int .i64 n::vs=> (ln vs).map (n:: ·)
 | _=>none
theorem q8: ∀ {vs:List V} {zs:List Int},ln vs=some zs→vs=zs.map (V.int .i64)
 | [],zs,h=>by simp[ln] at h;subst h;rfl
 | v::vs,zs,h=>by
   unfold ln at h
   split at h
   ·rename_i heq;simp at heq
   ·rename_i n vs' heq
    injection heq with e1 e2
    subst e1;subst e2
    rw[Zq] at h
    obtain⟨ys,h1,rfl⟩:=h
    rw[q8 h1];rfl
   ·simp at h
theorem oR: ∀zs:List Int,ln (zs.map (V.int .i64))=some zs
 | []=>rfl
 | z::zs=>by simp only[List.map_cons,ln,oR zs,ZE]
def yY:List V→Option eV
 | [.msl 1 es 0 len]=>if len=es.length then match ln es with
     | some zs=>if zs.length< 4611686018427387904 then some ⟨.tuple [],[(0,(fV zs).map (V.int .i64))]⟩ else none
     | none=>none
   else none
 | _=>none
end Go.AM
namespace Go.AM
def NW (tab:List (Nat×bF)) (f:Nat):Option bF:=(tab.find? (·.1==f)).map (·.2)
def Kg (tab:List (Nat× (List V→Option eV))) (f:Nat) (au:List V):Option eV:=match tab.find? (·.1==f) with
 | some p=>p.2 au
 | none=>none
structure IN where
 h: (Nat→List V→Option eV)→List V→Option eV
 mono: ∀ (C C':Nat→List V→Option eV),(∀g vs r,C g vs=some r→C' g vs=some r)→ ∀vs r,h C vs=some r→h C' vs=some r
def C2 (tab:List (Nat×IN)) (f:Nat):Option ((Nat→List V→Option eV)→List V→Option eV):=(tab.find? (·.1==f)).map (·.2.h)
theorem Bk (tab:List (Nat×IN)): ∀f h,C2 tab f=some h→ ∀ (C C':Nat→List V→Option eV),(∀g vs r,C g vs=some r→C' g vs=some r)→ ∀vs r,h C vs=some r→h C' vs=some r:=by
 intro f h hf
 unfold C2 at hf
 rw[Zq] at hf
 obtain⟨p,_,rfl⟩:=hf
 exact p.2.mono
def FR (tab:List (Nat× (List V→Option (List (List V))))) (g:Nat) (caps:List V):Option (List (List V)):=match tab.find? (·.1==g) with
 | some p=>p.2 caps
 | none=>none
abbrev Lb:=List V→List V→Option (V×List V)
def FT (tab:List (Nat×Lb)) (f:Nat):Option Lb:=(tab.find? (·.1==f)).map (·.2)
def mkEM (tab:List (Nat×bF)) (ext:List (Nat× (List V→Option eV))) (hyb:List (Nat×IN)) (iter:List (Nat× (List V→Option (List (List V))))) (em:List (Nat×Lb)):Env:={fn:=NW tab,ext:=Kg ext,hyb:=C2 hyb,mono:=Bk hyb,iter:=FR iter,xl:=FT em}
def UI (tab:List (Nat×bF)) (ext:List (Nat× (List V→Option eV))) (hyb:List (Nat×IN)) (iter:List (Nat× (List V→Option (List (List V))))):Env:=mkEM tab ext hyb iter []
abbrev od (d:Nat) (x:qS):bC:=⟨some d,x,none,[]⟩
abbrev op (d:Nat) (x:qS) (p:List Nat):bC:=⟨some d,x,none,p⟩
abbrev ic (n:Int):aD:= .const (.int .i64 n)
abbrev fc (n:Nat):aD:= .const (.fn n [])
end Go.AM
namespace Go.AM
def iF:Nat→List V→List (List V)
 | i,p::q::rest=> [.int .i64 (i:Int),.agg (p.cells++q.cells)]::iF (i+1) (q::rest)
 | _,_=> []
def C3:List V→Option (List (List V))
 | [.eptr (.lit 2 ps) 0]=>if ps.length< 4611686018427387904 then some (iF 0 ps) else none
 | [.eptr .nils 0]=>some []
 | _=>none
end Go.AM
namespace Go.AM
def tO (skip:Bool) (n:Int):Nat→List V→List (List V)
 | i,p::q::rest=> (if skip && (decide ((i:Int)=n - 1) || decide ((i:Int)=n)) then [] else [[p,q]])++tO skip n (i+1) (q::rest)
 | _,_=> []
def IP:V→Bool
 | .agg [_,_]=>true
 | _=>false
def yZ (e n:Int):Nat→List V→Option (List (List V))
 | _,[]=>some []
 | k,.agg [.int .i64 _,.lit 2 ps,.int .i64 _,.int .i64 _]::es=>if ps.length< 4611686018427387904∧ps.all IP=true then(yZ e n (k+1) es).map (tO (decide ((k:Int)=e)) n 0 ps++ ·) else none
 | _,_=>none
def FU:List V→Option (List (List V))
 | [.eptr (.agg [.lit 4 es,_,_,_]) 0,.eptr (.agg (.int .i64 e:: .int .i64 n::_)) 0]=>if es.length< 4611686018427387904∧0≤n∧n< 4611686018427387904 then yZ e n 0 es else none
 | _=>none
end Go.AM
namespace Go.AM
structure SS where
 T:List (Nat×V)
 O:List (Nat×Obj)
def lk {α:Type}:List (Nat×α)→Nat→Option α
 | [],_=>none
 | (k,v)::l,n=>bif Nat.beq k n then some v else lk l n
def SS.On (S:SS) (σ:St):Prop:=(∀t v,lk S.T t=some v→σ.T t=v)∧(∀r o,lk S.O r=some o→σ.O r=o)
def SS.put (S:SS) (d:Option Nat) (v:V):SS:=match d with
 | some d=> ⟨(d,v)::S.T,S.O⟩
 | none=>S
def SS.bl (S:SS) (r:Nat) (o:Obj):SS:=⟨S.T,(r,o)::S.O⟩
theorem lq {α:Type} {p:Nat×α} {l:List (Nat×α)} {n:Nat}:lk (p::l) n=if p.1=n then some p.2 else lk l n:=by
 obtain⟨k,v⟩:=p
 simp only[lk]
 by_cases h:k=n
 ·simp[h]
 ·have:Nat.beq k n=false:=by
   cases hb:Nat.beq k n with
   | false=>rfl
   | true=>exact absurd (ZT hb) h
  simp[h,this]
theorem SS.On.put {S:SS} {σ:St} (h:S.On σ) (d:Option Nat) (v:V): (S.put d v).On (σ.put d v):=by
 cases d with
 | none=>exact h
 | some d=>
   refine⟨fun t x hx=> ?_,fun r o ho=> ?_⟩
   ·simp only[SS.put,lq] at hx
    show cC σ.T d v t=x
    unfold cC
    by_cases e:d=t
    ·simp only[e,if_true,Zr] at hx ⊢;exact hx
    ·rw[if_neg e] at hx;rw[if_neg (Ne.symm e)];exact h.1 t x hx
   ·exact h.2 r o ho
theorem SS.On.bl {S:SS} {σ:St} (h:S.On σ) (r:Nat) (o:Obj): (S.bl r o).On (σ.bl r o):=by
 refine⟨fun t x hx=>h.1 t x hx,fun r' x hx=> ?_⟩
 simp only[SS.bl,lq] at hx
 show cC σ.O r o r'=x
 unfold cC
 by_cases e:r=r'
 ·simp only[e,if_true,Zr] at hx ⊢;exact hx
 ·rw[if_neg e] at hx;rw[if_neg (Ne.symm e)];exact h.2 r' x hx
inductive ba:Type 1 where
 | done (v:V)
 | fail
 | kq (t:Nat) (k:V→ba)
 | bn (r:Nat) (k:Obj→ba)
 | bl (r:Nat) (o:Obj) (k:ba)
 | pK (r:Nat) (k:Nat→ba)
 | call (f:Nat) (args:List V) (k:eV→ba)
 | bu (p:Prop) (k:ba)
 | ex (α:Type) (p:α→Prop) (k:α→ba)
 | ite (b:Bool) (x y:ba)
 | alt (x y:ba)
 | all (k:Nat→ba)
 | Ni (a:Act)
def Ref:ba→Act→Prop
 | .done v,a=>a= .done v
 | .fail,_=>True
 | .kq t k,a=> ∃k0,a= .kq t k0∧ ∀v,Ref (k v) (k0 v)
 | .bn r k,a=> ∃k0,a= .bn r k0∧ ∀o,Ref (k o) (k0 o)
 | .bl r o k,a=> ∃k0,a= .bl r o k0∧Ref k k0
 | .pK r k,a=> ∃k0,a= .bn r k0∧ ∀o:Obj,Ref (k (o.gen+1)) (k0 o)
 | .call f au k,a=> ∃k0,a= .call f au k0∧ ∀res,Ref (k res) (k0 res)
 | .bu p k,a=>p→Ref k a
 | .ex _ p k,a=> ∀x,p x→Ref (k x) a
 | .ite b x y,a=> (b=true→Ref x a)∧(b=false→Ref y a)
 | .alt x y,a=>Ref x a∧Ref y a
 | .all k,a=> ∃n,Ref (k n) a
 | .Ni b,a=>a=b
structure oS (p q:Prop):Prop where
 side:p
 rest:q
inductive eW {α:Type} (p q:α→Prop):Prop
 | mk (x:α) (h:p x) (k:q x)
structure Br (b:Bool) (p q:Prop):Prop where
 yes:b=true→p
 no:b=false→q
inductive c6 (E:Env) (f:Nat) (au:List V) (q:eV→Prop):Prop
 | mk (res:eV) (h:Ev E f au res) (k:q res)
theorem Br.tt {p q:Prop} (h:p):Br true p q:=⟨fun _=>h,fun h=>by cases h⟩
theorem Br.ff {p q:Prop} (h:q):Br false p q:=⟨fun h=> (by cases h),fun _=>h⟩
theorem Br.dec {c:Prop} {_:Decidable c} {p q:Prop} (h:c→p) (k: ¬c→q):Br (decide c) p q:=⟨fun e=>h (of_decide_eq_true e),fun e=>k (of_decide_eq_false e)⟩
theorem Br.Ro {c:Prop} {_:Decidable c} {p q:Prop} (h: ¬c→p) (k:c→q):Br (!decide c) p q:=by
 refine⟨fun e=>h ?_,fun e=>k ?_⟩
 ·simpa using e
 ·simpa using e
theorem Br.t {c:Prop} {_:Decidable c} {p q:Prop} (h:c) (k:p):Br (decide c) p q:=⟨fun _=>k,fun e=>absurd h (of_decide_eq_false e)⟩
theorem Br.f {c:Prop} {_:Decidable c} {p q:Prop} (h: ¬c) (k:q):Br (decide c) p q:=⟨fun e=>absurd (of_decide_eq_true e) h,fun _=>k⟩
theorem Br.nt {c:Prop} {_:Decidable c} {p q:Prop} (h: ¬c) (k:p):Br (!decide c) p q:=⟨fun _=>k,fun e=>absurd ((by simpa using e:c)) h⟩
theorem Br.nf {c:Prop} {_:Decidable c} {p q:Prop} (h:c) (k:q):Br (!decide c) p q:=⟨fun e=>absurd h ((by simpa using e: ¬c)),fun _=>k⟩
theorem Br.bt {b:Bool} {p q:Prop} (h:b=true) (k:p):Br b p q:=⟨fun _=>k,fun e=> (by rw[h] at e;cases e)⟩
theorem Br.bf {b:Bool} {p q:Prop} (h:b=false) (k:q):Br b p q:=⟨fun e=> (by rw[h] at e;cases e),fun _=>k⟩
abbrev KK:=V→SS→List Loc→List Loc→Prop
structure Rp (E:Env) (a:Act) (S:SS) (Q:KK):Prop where
 h: ∀σ,S.On σ→tx E a σ fun v σ' r w=> ∃S',S'.On σ'∧Q v S' r w
def ei (E:Env):ba→SS→KK→Prop
 | .done v,S,Q=>Q v S [] []
 | .fail,_,_=>False
 | .kq t k,S,Q=>match lk S.T t with
   | some v=>ei E (k v) S fun v S' r w=>Q v S' (.t t::r) w
   | none=>False
 | .bn t k,S,Q=>match lk S.O t with
   | some v=>ei E (k v) S fun v S' r w=>Q v S' (.o t::r) w
   | none=>False
 | .bl t o k,S,Q=>match S with
   | ⟨T,O⟩=>ei E k ⟨T,(t,o)::O⟩ fun v S' r w=>Q v S' r (.o t::w)
 | .pK t k,S,Q=> ∀g:Nat,ei E (k g) S fun v S' r w=>Q v S' (.o t::r) w
 | .call f au k,S,Q=>c6 E f au fun res=>ei E (k res) S Q
 | .bu p k,S,Q=>oS p (ei E k S Q)
 | .ex _ p k,S,Q=>eW p fun x=>ei E (k x) S Q
 | .ite b x y,S,Q=>Br b (ei E x S Q) (ei E y S Q)
 | .alt x y,S,Q=>ei E x S Q∨ei E y S Q
 | .all k,S,Q=> ∀n,ei E (k n) S Q
 | .Ni a,S,Q=>Rp E a S Q
theorem cm {E:Env}: ∀ {a2:ba} {a:Act} {S:SS} {Q:KK} {σ:St},Ref a2 a→ei E a2 S Q→S.On σ→tx E a σ fun v σ' r w=> ∃S',S'.On σ'∧Q v S' r w
 | .done v,a,S,Q,σ,hr,h,ho=>by
   simp only[Ref] at hr;subst hr
   rw[FH];exact⟨S,ho,h⟩
 | .fail,_,_,_,_,_,h,_=>by simp[ei] at h
 | .kq t k,a,S,Q,σ,hr,h,ho=>by
   obtain⟨k0,rfl,hk⟩:=hr
   rw[FI]
   simp only[ei] at h
   split at h
   ·rename_i v hv
    rw[ho.1 t v hv]
    exact cm (hk v) h ho
   ·exact h.elim
 | .bn t k,a,S,Q,σ,hr,h,ho=>by
   obtain⟨k0,rfl,hk⟩:=hr
   rw[yU]
   simp only[ei] at h
   split at h
   ·rename_i v hv
    rw[ho.2 t v hv]
    exact cm (hk v) h ho
   ·exact h.elim
 | .bl t o k,a,S,Q,σ,hr,h,ho=>by
   obtain⟨k0,rfl,hk⟩:=hr
   rw[FJ]
   simp only[ei] at h
   obtain⟨T,O⟩:=S
   exact cm hk h (ho.bl t o)
 | .pK t k,a,S,Q,σ,hr,h,ho=>by
   obtain⟨k0,rfl,hk⟩:=hr
   rw[yU]
   simp only[ei] at h
   exact cm (hk (σ.O t)) (h _) ho
 | .call f au k,a,S,Q,σ,hr,h,ho=>by
   obtain⟨k0,rfl,hk⟩:=hr
   rw[FK]
   simp only[ei] at h
   obtain⟨res,he,h⟩:=h
   exact⟨res,he,cm (hk res) h ho⟩
 | .bu p k,a,S,Q,σ,hr,h,ho=>cm (hr h.1) h.2 ho
 | .ex α p k,a,S,Q,σ,hr,h,ho=>by
   simp only[ei] at h
   obtain⟨x,hx,h⟩:=h
   exact cm (hr x hx) h ho
 | .ite b x y,a,S,Q,σ,hr,h,ho=>by
   simp only[ei] at h
   simp only[Ref] at hr
   cases b with
   | true=>exact cm (hr.1 rfl) (h.1 rfl) ho
   | false=>exact cm (hr.2 rfl) (h.2 rfl) ho
 | .alt x y,a,S,Q,σ,hr,h,ho=>by
   simp only[ei] at h
   rcases h with h| h
   ·exact cm hr.1 h ho
   ·exact cm hr.2 h ho
 | .all k,a,S,Q,σ,hr,h,ho=>by
   obtain⟨n,hr⟩:=hr
   exact cm hr (h n) ho
 | .Ni b,a,S,Q,σ,hr,h,ho=>by
   simp only[Ref] at hr
   subst hr
   exact h.h σ ho
end Go.AM
namespace Go.AM
def nth {α:Type}:List α→Nat→Option α
 | [],_=>none
 | x::_,0=>some x
 | _::l,n+1=>nth l n
theorem Bl {α:Type}: ∀ (l:List α) (n:Nat),nth l n=l[n]?
 | [],_=>by simp[nth]
 | _::_,0=>by simp[nth]
 | _::l,n+1=>by simp[nth,Bl l n]
def force {α:Type} {β:Type 1}:List α→(List α→β)→β
 | [],k=>k []
 | x::l,k=>force l fun l'=>k (x::l')
theorem force_eq {α:Type} {β:Type 1}: ∀ (l:List α) (k:List α→β),force l k=k l
 | [],_=>rfl
 | _::l,k=>by simp only[force,force_eq l]
def xn {α:Type}:List α→Nat→α→List α
 | [],_,_=> []
 | _::l,0,y=>y::l
 | x::l,n+1,y=>x::xn l n y
theorem tA {α:Type}: ∀ (l:List α) (n:Nat) (y:α),xn l n y=l.set n y
 | [],_,_=>by simp[xn]
 | _::_,0,_=>by simp[xn]
 | _::l,n+1,y=>by simp[xn,tA l n y]
def eX {α:Type}:List α→Nat→Bool
 | [],0=>true
 | _::l,n+1=>eX l n
 | _,_=>false
theorem kr {α:Type}: ∀ {l:List α} {n:Nat},eX l n=true→l.length=n
 | [],0,_=>rfl
 | _::l,n+1,h=>by simp only[eX] at h;simp[kr h]
 | [],_+1,h=>by simp[eX] at h
 | _::_,0,h=>by simp[eX] at h
def fq {α:Type}:List α→Nat→Bool
 | _,0=>true
 | _::l,n+1=>fq l n
 | [],_+1=>false
theorem ku {α:Type}: ∀ {l:List α} {n:Nat},fq l n=true→n≤l.length
 | _,0,_=>aaj _
 | _::l,n+1,h=>by simp only[fq] at h;simpa using ku h
 | [],_+1,h=>by simp[fq] at h
def takeN {α:Type}:List α→Nat→List α
 | _,0=> []
 | x::l,n+1=>x::takeN l n
 | [],_+1=> []
theorem pL {α:Type}: ∀ (l:List α) (n:Nat),takeN l n=l.take n
 | _,0=>by simp[takeN]
 | _::l,n+1=>by simp[takeN,pL l n]
 | [],_+1=>by simp[takeN]
def nZ {α:Type}:List α→Nat→List α
 | l,0=>l
 | _::l,n+1=>nZ l n
 | [],_+1=> []
theorem pM {α:Type}: ∀ (l:List α) (n:Nat),nZ l n=l.drop n
 | _,0=>by simp[nZ]
 | _::l,n+1=>by simp[nZ,pM l n]
 | [],_+1=>by simp[nZ]
def ka (v:V) (sz:Nat):Bool:=match v with
 | .agg cs=>eX cs sz
 | v=>V.aF v &&Nat.beq sz 1
theorem kx {v:V} {sz:Nat} (h:ka v sz=true):aJ v sz=true:=by
 unfold ka at h
 split at h
 ·simp[aJ,V.cells,V.cq,V.isAgg,kr h]
 ·rename_i hn
  simp only[Zt] at h
  have h1:sz=1:=ZT h.2
  have h2:v.cells=[v]:=by cases v<;>simp_all[V.cells]
  simp[aJ,V.cq,h2,h1,h.1]
def tP (agg:Bool) (off sz:Nat) (e:V):Option V:=
 match agg with
 | true=>match e with
   | .agg cs=>bif Nat.beq off 0 &&eX cs sz then some e else bif fq cs (off+sz) then some (.agg (takeN (nZ cs off) sz)) else none
   | _=>none
 | false=>match e with
   | .agg cs=>nth cs off
   | v=>bif V.aF v &&Nat.beq off 0 then some v else none
theorem ky {agg:Bool} {off sz:Nat} {e v:V} (h:tP agg off sz e=some v):AM.part agg off sz e=some v:=by
 cases agg with
 | true=>
   simp only[tP] at h
   cases e with
   | agg cs=>
     simp only at h
     cases hb: (Nat.beq off 0 &&eX cs sz) with
     | true=>
       simp only[hb,cond_true,Zr] at h
       subst h
       simp only[Zt] at hb
       have h1:off=0:=ZT hb.1
       have h2:=kr hb.2
       simp[AM.part,h1,←h2]
     | false=>
       simp only[hb,cond_false] at h
       cases hc:fq cs (off+sz) with
       | true=>
         simp only[hc,cond_true,Zr] at h
         subst h
         simp[AM.part,pL,pM,ku hc]
       | false=>simp[hc] at h
   | _=>simp at h
 | false=>
   simp only[tP] at h
   cases e with
   | agg cs=>simp only[Bl] at h;simpa [AM.part] using h
   | _=>
     simp only[V.aF,aax,Bool.false_and,cond_false] at h
     first
     | (simp at h;done)
     | (cases hb:Nat.beq off 0 with
        | true=>simp only[hb,cond_true] at h;have h1:=ZT hb;simp[AM.part,h1,V.aF];simpa using h
        | false=>simp[hb] at h)
def gS (agg:Bool) (off sz:Nat) (e v:V):Option V:=
 match agg with
 | true=>match e,v with
   | .agg cs,.agg vs=>bif eX vs sz then(bif Nat.beq off 0 &&eX cs sz then some v else bif fq cs (off+sz) then some (.agg (takeN cs off++(vs++nZ cs (off+sz)))) else none) else none
   | _,_=>none
 | false=>bif V.aF v &&Nat.beq sz 1 then match e with
    | .agg cs=>bif fq cs (off+1) then some (.agg (xn cs off v)) else none
    | e=>bif V.aF e &&Nat.beq off 0 then some v else none
   else none
theorem sa {agg:Bool} {off sz:Nat} {e v x:V} (h:gS agg off sz e v=some x):iG agg off sz e v=some x:=by
 cases agg with
 | true=>
   simp only[gS] at h
   split at h
   · rename_i cs vs
     cases h1:eX vs sz with
     | false=>simp[h1] at h
     | true=>
       have vU:=kr h1
       simp only[h1,cond_true] at h
       cases hb: (Nat.beq off 0 &&eX cs sz) with
       | true=>
         simp only[hb,cond_true,Zr] at h
         subst h
         simp only[Zt] at hb
         have h3:off=0:=ZT hb.1
         have h2:=kr hb.2
         subst h3
         simp[iG,vU,h2]
       | false=>
         simp only[hb,cond_false] at h
         cases hc:fq cs (off+sz) with
         | true=>
           simp only[hc,cond_true,Zr] at h
           subst h
           simp[iG,pL,pM,ku hc,vU]
         | false=>simp[hc] at h
   ·simp at h
 | false=>
   simp only[gS] at h
   cases hb: (V.aF v &&Nat.beq sz 1) with
   | false=>simp[hb] at h
   | true=>
     simp only[hb,cond_true] at h
     simp only[Zt] at hb
     have h1:sz=1:=ZT hb.2
     split at h
     · rename_i cs
       cases hc:fq cs (off+1) with
       | false=>simp[hc] at h
       | true=>
         simp only[hc,cond_true,Zr] at h
         subst h
         have:=ku hc
         simp[iG,hb.1,h1,tA];omega
     · rename_i hn
       cases hc: (V.aF e &&Nat.beq off 0) with
       | false=>simp[hc] at h
       | true=>
         simp only[hc,cond_true,Zr] at h
         subst h
         simp only[Zt] at hc
         have h3:off=0:=ZT hc.2
         cases e<;>simp_all[iG,V.aF]
def je:Option V→ba
 | some v=> .done v
 | none=> .fail
def mq (agg:Bool) (off sz:Nat) (e:V):ba:=
 match agg with
 | true=>match e with
   | .agg cs=>bif Nat.beq off 0 &&eX cs sz then .done e else bif fq cs (off+sz) then force (takeN (nZ cs off) sz) fun l=> .done (.agg l) else .fail
   | _=> .fail
 | false=>match e with
   | .agg cs=>je (nth cs off)
   | v=>bif V.aF v &&Nat.beq off 0 then .done v else .fail
theorem pN {agg:Bool} {off sz:Nat} {e:V}:mq agg off sz e=je (tP agg off sz e):=by
 unfold mq tP
 cases agg with
 | true=>
   cases e with
   | agg cs=>
     simp only
     cases hb: (Nat.beq off 0 &&eX cs sz) with
     | true=>rfl
     | false=>
       simp only[cond_false]
       cases hc:fq cs (off+sz) with
       | true=>simp only[cond_true,force_eq];rfl
       | false=>rfl
   | _=>rfl
 | false=>
   cases e with
   | agg cs=>rfl
   | _=>simp only;cases hb:Nat.beq off 0 <;>simp[V.aF,je]
def FV (agg:Bool) (off sz:Nat) (e v:V) (k:V→ba):ba:=
 match agg with
 | true=>match e,v with
   | .agg cs,.agg vs=>bif eX vs sz then(bif Nat.beq off 0 &&eX cs sz then k v else bif fq cs (off+sz) then force (takeN cs off++(vs++nZ cs (off+sz))) fun l=>k (.agg l) else .fail) else .fail
   | _,_=> .fail
 | false=>bif V.aF v &&Nat.beq sz 1 then match e with
    | .agg cs=>bif fq cs (off+1) then force (xn cs off v) fun l=>k (.agg l) else .fail
    | e=>bif V.aF e &&Nat.beq off 0 then k v else .fail
   else .fail
theorem IQ {agg:Bool} {off sz:Nat} {e v:V} {k:V→ba}:FV agg off sz e v k=match gS agg off sz e v with
   | some x=>k x
   | none=> .fail:=by
 unfold FV gS
 cases agg with
 | true=>
   simp only
   split
   · rename_i cs vs
     cases eX vs sz with
     | false=>rfl
     | true=>
       simp only[cond_true]
       cases (Nat.beq off 0 &&eX cs sz) with
       | true=>rfl
       | false=>
         simp only[cond_false]
         cases fq cs (off+sz) with
         | true=>simp only[cond_true,force_eq]
         | false=>rfl
   ·rfl
 | false=>
   simp only
   cases (V.aF v &&Nat.beq sz 1) with
   | false=>rfl
   | true=>
     simp only[cond_true]
     split
     · rename_i cs
       cases fq cs (off+1) with
       | true=>simp only[cond_true,force_eq]
       | false=>rfl
     ·cases (V.aF e &&Nat.beq off 0) <;>rfl
def eI (x:aD) (k:V→ba):ba:=match x with
 | .tmp t=> .kq t k
 | .const v=>k v
theorem Ref.ev {x:aD} {k:V→ba} {k0:V→Act} (h: ∀v,Ref (k v) (k0 v)):Ref (eI x k) (AM.ev x k0):=by
 cases x with
 | tmp t=>exact⟨k0,rfl,h⟩
 | const v=>exact h v
def y4:List aD→(List V→ba)→ba
 | [],k=>k []
 | x::xs,k=>eI x fun v=>y4 xs fun vs=>k (v::vs)
theorem Ref.yM: ∀ {xs:List aD} {k:List V→ba} {k0:List V→Act},(∀v,Ref (k v) (k0 v))→Ref (y4 xs k) (AM.yM xs k0)
 | [],_,_,h=>h []
 | x::xs,_,_,h=>Ref.ev fun v=>Ref.yM fun vs=>h (v::vs)
def IS:Option aD→(Option V→ba)→ba
 | none,k=>k none
 | some x,k=>eI x fun v=>k (some v)
theorem Ref.Fo {x:Option aD} {k:Option V→ba} {k0:Option V→Act} (h: ∀v,Ref (k v) (k0 v)):Ref (IS x k) (AM.Fo x k0):=by
 cases x with
 | none=>exact h none
 | some x=>exact Ref.ev fun v=>h (some v)
theorem Ref.dq {o o0:Option V} (h: ∀v,o=some v→o0=some v):Ref (je o) (AM.dq o0):=by
 cases o with
 | none=>trivial
 | some v=>rw[h v rfl];exact rfl
theorem Ref.eJ {o:Option V}:Ref (je o) (AM.dq o):=Ref.dq fun _ h=>h
theorem Ref.fail {a:Act}:Ref .fail a:=trivial
theorem Ref.done {v:V}:Ref (.done v) (.done v):=rfl
def tQ (c:V) (k:V→ba):ba:=
 match c with
 | .sl r g off len=> .bn r fun ⟨bD,ec,cr,fA,eY⟩=>match eY with
   | some es=> .ex (List V) (fun ys=>aw es off len=ys) fun ys=> .bu (bD=g∧cr=true∧off+len≤es.length∧V.al ys=true) (.bl r ⟨bD,ec,cr,true,eY⟩ (k (.lit ec ys)))
   | none=> .fail
 | .mp r g=> .bn r fun ⟨bD,ec,cr,fA,eY⟩=>match eY with
   | some es=> .ex (List V) (fun ys=>es=ys) fun ys=> .bu (bD=g∧ec=0∧V.al ys=true∧ys.all V.isTuple=true) (.bl r ⟨bD,ec,cr,true,eY⟩ (k (.mlit ys)))
   | none=> .fail
 | .own .. | .msl .. | .mptr .. | .any| .it .. => .fail
 | c=>k c
theorem Ref.gJ {c:V} {k:V→ba} {k0:V→Act} (h: ∀v,Ref (k v) (k0 v)):Ref (tQ c k) (AM.gJ c k0):=by
 cases c
 case sl r g off len=>
  refine⟨_,rfl,fun ⟨gen,sz,arr,fz,es⟩=> ?_⟩
  cases es with
  | none=>trivial
  | some es=>
    rintro ys rfl hc
    simp only[hc,and_self,if_true]
    refine⟨_,by simp[hc],h _⟩
 case mp r g=>
  refine⟨_,rfl,fun ⟨gen,sz,arr,fz,es⟩=> ?_⟩
  cases es with
  | none=>trivial
  | some es=>
    rintro ys rfl hc
    simp only[hc,and_self,if_true]
    refine⟨_,by simp[hc],h _⟩
 all_goals first| exact h _| trivial
def xo (b:Bool) (c:V) (k:V→ba):ba:=
 match b,c with
 | true,.ptr r g 0 off=> .bn r fun ⟨bD,ec,cr,fA,eY⟩=>match eY with
   | some [e]=> .bu (bD=g∧0 <ec∧V.aq e=true) (.bl r ⟨bD,ec,cr,true,eY⟩ (k (.eptr e off)))
   | _=> .fail
 | _,c=>k c
theorem Ref.oT {b:Bool} {c:V} {k:V→ba} {k0:V→Act} (h: ∀v,Ref (k v) (k0 v)):Ref (xo b c k) (AM.oT b c k0):=by
 unfold xo AM.oT
 split
 ·refine⟨_,rfl,fun ⟨gen,sz,arr,fz,es⟩=> ?_⟩
  dsimp only
  split
  ·intro hc
   simp only[hc,and_self,if_true]
   refine⟨_,by simp[hc],h _⟩
  ·trivial
 ·split
  ·rename_i hx
   exact absurd rfl (hx _ _ _ rfl)
  ·exact h _
def tT:List (Bool×aD)→(List V→ba)→ba
 | [],k=>k []
 | (b,x)::xs,k=>eI x fun c=>xo b c fun c'=>tT xs fun cs=>k (c'::cs)
theorem Ref.iH: ∀ {xs:List (Bool×aD)} {k:List V→ba} {k0:List V→Act},(∀v,Ref (k v) (k0 v))→Ref (tT xs k) (AM.iH xs k0)
 | [],_,_,h=>h []
 | (_,_)::_,_,_,h=>Ref.ev fun _=>Ref.oT fun v=>Ref.iH fun vs=>h (v::vs)
def q9:List V→(List V→ba)→ba
 | [],k=>k []
 | c::cs,k=>tQ c fun c'=>q9 cs fun b6=>k (c'::b6)
theorem Ref.jf: ∀ {cs:List V} {k:List V→ba} {k0:List V→Act},(∀v,Ref (k v) (k0 v))→Ref (q9 cs k) (AM.jf cs k0)
 | [],_,_,h=>h []
 | _::_,_,_,h=>Ref.gJ fun v=>Ref.jf fun vs=>h (v::vs)
def vw (v:V) (k:V→ba):ba:=
 bif V.aq v then k v else
 match v with
 | .agg cs=>q9 cs fun b6=>k (.agg b6)
 | v=>tQ v k
theorem Ref.xp {v:V} {k:V→ba} {k0:V→Act} (h: ∀v,Ref (k v) (k0 v)):Ref (vw v k) (AM.xp v k0):=by
 unfold vw AM.xp
 cases hp:V.aq v with
 | true=>simpa using h v
 | false=>
   simp only[cond_false,ZB,if_false]
   cases v
   case agg cs=>exact Ref.jf fun b6=>h _
   all_goals exact Ref.gJ h
def C4 (vs:List V) (k:List V→ba):ba:=
 .alt (.bu (V.al vs=true) (k vs)) (match vs with
  | [v]=>vw v fun v'=>k [v']
  | _=> .fail)
theorem Ref.ml {vs:List V} {k:List V→ba} {k0:List V→Act} (h: ∀v,Ref (k v) (k0 v)):Ref (C4 vs k) (AM.ml vs k0):=by
 unfold C4
 refine⟨?_,?_⟩
 ·intro hp
  simp only[AM.ml,hp,if_true]
  exact h _
 ·split
  ·rename_i v
   unfold AM.ml
   by_cases hp:V.al [v]=true
   ·rw[if_pos hp]
    have h1:V.aq v=true:=by simpa [V.al] using hp
    unfold vw
    simp only[h1,cond_true];exact h _
   ·rw[if_neg hp]
    simp only[AM.ml.go]
    exact Ref.xp fun v'=>h _
  ·trivial
end Go.AM
namespace Go.AM
def xq (f:V→(V→List Nat→ba)→ba):List V→(List V→List Nat→ba)→ba
 | [],k=>k [] []
 | c::cs,k=>f c fun c' r=>xq f cs fun b6 rs=>k (c'::b6) (r++rs)
theorem Ref.n0 {f:V→(V→List Nat→ba)→ba} {f0:V→(V→List Nat→Act)→Act} (hf: ∀c k k0,(∀v rs,Ref (k v rs) (k0 v rs))→Ref (f c k) (f0 c k0)):
  ∀ {cs:List V} {k:List V→List Nat→ba} {k0:List V→List Nat→Act},(∀v rs,Ref (k v rs) (k0 v rs))→Ref (xq f cs k) (AM.n0 f0 cs k0)
 | [],_,_,h=>h _ _
 | _::_,_,_,h=>hf _ _ _ fun v rs=>Ref.n0 hf fun vs rs'=>h _ _
def fB:Nat→V→(V→List Nat→ba)→ba
 | 0,v,k=> .bu (V.aq v=true) (k v [])
 | d+1,v,k=>bif V.aq v then k v [] else
   match v with
   | .agg cs=>xq (fB d) cs fun b6 rs=>k (.agg b6) rs
   | .fn f cs=>xq (fB d) cs fun b6 rs=>k (.fn f b6) rs
   | .iface t x=>fB d x fun x' rs=>k (.iface t x') rs
   | .sl r g off len=> .bn r fun ⟨bD,ec,cr,fA,eY⟩=>match eY with
     | some es=> .ex (List V) (fun ys=>aw es off len=ys) fun ys=> .bu (bD=g∧cr=true∧off+len≤es.length∧V.al ys=true) (k (.lit ec ys) [r])
     | none=> .fail
   | .ptr r g idx off=> .bn r fun ⟨bD,ec,cr,fA,eY⟩=>match eY with
     | some es=> .bu (bD=g) (match es with
       | [e]=> (match idx with| 0=>fB d e fun e' rs=>k (.eptr e' off) (r::rs) | _+1=> .fail)
       | es=> .ex V (fun e=>es[idx]? =some e) fun e=>fB d e fun e' rs=>k (.eptr e' off) (r::rs))
     | none=> .fail
   | _=> .fail
theorem Ref.ek: ∀ {d:Nat} {v:V} {k:V→List Nat→ba} {k0:V→List Nat→Act},(∀v rs,Ref (k v rs) (k0 v rs))→Ref (fB d v k) (AM.ek d v k0)
 | 0,v,k,k0,h=>by
   intro hp
   simp only[AM.ek,hp,if_true]
   exact h _ _
 | d+1,v,k,k0,h=>by
   unfold fB AM.ek
   cases hp:V.aq v with
   | true=>simpa using h v []
   | false=>
     simp only[cond_false,ZB,if_false]
     cases v
     case agg cs=>exact Ref.n0 (f:=fB d) (f0:=AM.ek d) (fun c k k0 h=>Ref.ek h) fun b6 rs=>h _ _
     case fn f cs=>exact Ref.n0 (f:=fB d) (f0:=AM.ek d) (fun c k k0 h=>Ref.ek h) fun b6 rs=>h _ _
     case iface t x=>exact Ref.ek fun x' rs=>h _ _
     case sl r g off len=>
      refine⟨_,rfl,fun ⟨gen,sz,arr,fz,es⟩=> ?_⟩
      cases es with
      | none=>trivial
      | some es=>
        rintro ys rfl hc
        try simp only at hc
        simp only[hc,and_self,if_true,tB]
        exact h _ _
     case ptr r g idx off=>
      refine⟨_,rfl,fun ⟨gen,sz,arr,fz,es⟩=> ?_⟩
      cases es with
      | none=>trivial
      | some es=>
        intro hc
        try simp only at hc
        simp only[hc,if_true]
        split
        ·  rename_i e
           cases idx with
           | zero=>exact Ref.ek fun e' rs=>h _ _
           | succ n=>trivial
        ·  intro e he
           simp only[he]
           exact Ref.ek fun e' rs=>h _ _
     all_goals trivial
def dQ (   r0:Nat):List V→List (Option Nat)→Nat→(List V→List Nat→List c9→ba)→ba
 | [],_,_,k=>k [] [] []
 | v::vs,m::ms,i,k=>
   match m with
   | some sz=>match v with
     | .nils=> .bu (0 <sz) (dQ r0 vs ms (i+1) fun au rs ws=>k (.msl sz [] 0 0::au) rs (⟨i,r0+i,some sz⟩::ws))
     | .sl r g off len=> .bn r fun ⟨bD,ec,cr,fA,eY⟩=>match eY with
       | some es=> .bu (bD=g∧fA=false∧ec=sz∧off+len≤es.length∧V.al es=true)
          (dQ r0 vs ms (i+1) fun au rs ws=>k (.msl sz es off len::au) rs (⟨i,r,none⟩::ws))
       | none=> .fail
     | .ptr r g idx off=> .bn r fun ⟨bD,ec,cr,fA,eY⟩=>match eY with
       | some es=> .bu (bD=g∧fA=false∧ec=sz∧V.al es=true)
          (dQ r0 vs ms (i+1) fun au rs ws=>k (.mptr sz es idx off::au) rs (⟨i,r,none⟩::ws))
       | none=> .fail
     | _=> .fail
   | none=>fB 5 v fun v' rs=>dQ r0 vs ms (i+1) fun au rs' ws=>k (v'::au) (rs++rs') ws
 | v::vs,[],i,k=>fB 5 v fun v' rs=>dQ r0 vs [] (i+1) fun au rs' ws=>k (v'::au) (rs++rs') ws
theorem Ref.cQ {r0:Nat}: ∀ {vs:List V} {ms:List (Option Nat)} {i:Nat} {k:List V→List Nat→List c9→ba} {k0:List V→List Nat→List c9→Act},
   (∀a b c,Ref (k a b c) (k0 a b c))→Ref (dQ r0 vs ms i k) (AM.cQ r0 vs ms i k0)
 | [],_,_,_,_,h=>h _ _ _
 | v::vs,[],i,k,k0,h=>Ref.ek fun v' rs=>Ref.cQ fun a b c=>h _ _ _
 | v::vs,none::ms,i,k,k0,h=>Ref.ek fun v' rs=>Ref.cQ fun a b c=>h _ _ _
 | v::vs,some sz::ms,i,k,k0,h=>by
   unfold dQ AM.cQ
   cases v
   case nils=>
    intro hc
    simp only[hc,if_true]
    exact Ref.cQ fun a b c=>h _ _ _
   case sl r g off len=>
    refine⟨_,rfl,fun ⟨gen,sz,arr,fz,es⟩=> ?_⟩
    cases es with
    | none=>trivial
    | some es=>
      intro hc
      try simp only at hc
      simp only[hc,and_self,if_true]
      exact Ref.cQ fun a b c=>h _ _ _
   case ptr r g idx off=>
    refine⟨_,rfl,fun ⟨gen,sz,arr,fz,es⟩=> ?_⟩
    cases es with
    | none=>trivial
    | some es=>
      intro hc
      try simp only at hc
      simp only[hc,and_self,if_true]
      exact Ref.cQ fun a b c=>h _ _ _
   all_goals trivial
def lr:List Nat→ba→ba
 | [],k=>k
 | r::rs,k=> .bn r fun ⟨bD,ec,cr,fA,eY⟩=> .bl r ⟨bD,ec,cr,true,eY⟩ (lr rs k)
theorem Ref.cV: ∀ {rs:List Nat} {k:ba} {k0:Act},Ref k k0→Ref (lr rs k) (AM.cV rs k0)
 | [],_,_,h=>h
 | _::_,_,_,h=> ⟨_,rfl,fun ⟨_,_,_,_,_⟩=> ⟨_,rfl,Ref.cV h⟩⟩
def fC:List c9→List (Nat×List V)→(List (Nat×Nat×Nat)→ba)→ba
 | [],[],k=>k []
 | ⟨i,r,fresh⟩::ws,(bump,es)::outs,k=> .bn r fun ⟨bD,ec,cr,fA,eY⟩=>match fresh with
   | none=> .bl r ⟨bD+bump,ec,cr,fA,some es⟩ (fC ws outs fun gs=>k ((i,r,bD+bump)::gs))
   | some sz=> .bl r {gen:=bD+1,sz,arr:=true,fz:=false,es:=some es} (fC ws outs fun gs=>k ((i,r,bD+1)::gs))
 | _,_,_=> .fail
theorem Ref.dE: ∀ {ws:List c9} {outs:List (Nat×List V)} {k:List (Nat×Nat×Nat)→ba} {k0:List (Nat×Nat×Nat)→Act},(∀g,Ref (k g) (k0 g))→Ref (fC ws outs k) (AM.dE ws outs k0)
 | [],[],_,_,h=>h _
 | [],_::_,_,_,_=>trivial
 | _::_,[],_,_,_=>trivial
 | ⟨i,r,fresh⟩::ws,(bump,es)::outs,k,k0,h=>by
   refine⟨_,rfl,fun ⟨gen,sz,arr,fz,es'⟩=> ?_⟩
   cases fresh with
   | none=>exact⟨_,rfl,Ref.dE fun g=>h _⟩
   | some sz=>exact⟨_,rfl,Ref.dE fun g=>h _⟩
theorem Ref.bif {b:Bool} {x:ba} {a:Act} (h:Ref x a):Ref (bif b then x else .fail) (if b=true then a else .fail):=by
 cases b with
 | true=>simpa using h
 | false=>trivial
def jK (aY:Bool) (r:Nat) (gs:List (Nat×Nat×Nat)) (c:V) (k:V→ba):ba:=
 match c with
 | .own sz xs=> (match aY with
   | true=> .pK r fun g=> .bl r {gen:=g,sz,arr:=true,fz:=false,es:=some xs} (k (.sl r g 0 xs.length))
   | false=>k (.lit sz xs))
 | .sl i _ off len=>match lu i gs with
   | some (r',g')=>k (.sl r' g' off len)
   | none=> .fail
 | c=>bif V.aq c then k c else .fail
theorem Ref.cN {aY:Bool} {r:Nat} {gs:List (Nat×Nat×Nat)} {c:V} {k:V→ba} {k0:V→Act} (h: ∀v,Ref (k v) (k0 v)):Ref (jK aY r gs c k) (AM.cN aY r gs c k0):=by
 unfold jK AM.cN
 cases c
 case own sz xs=>
  cases aY with
  | true=>exact⟨_,rfl,fun o=> ⟨_,rfl,h _⟩⟩
  | false=>exact h _
 case sl i g off len=>
  simp only
  cases lu i gs with
  | none=>trivial
  | some p=>exact h _
 all_goals exact Ref.bif (h _)
def lz (aY:Bool):Nat→List (Nat×Nat×Nat)→List V→(List V→ba)→ba
 | _,_,[],k=>k []
 | r,gs,c::cs,k=>jK aY r gs c fun c'=>lz aY (r+1) gs cs fun b6=>k (c'::b6)
theorem Ref.dB {aY:Bool}: ∀ {cs:List V} {r:Nat} {gs:List (Nat×Nat×Nat)} {k:List V→ba} {k0:List V→Act},(∀v,Ref (k v) (k0 v))→Ref (lz aY r gs cs k) (AM.dB aY r gs cs k0)
 | [],_,_,_,_,h=>h _
 | _::_,_,_,_,_,h=>Ref.cN fun c'=>Ref.dB fun b6=>h _
def pO (aY:Bool) (r:Nat) (gs:List (Nat×Nat×Nat)) (v:V) (k:V→ba):ba:=
 bif V.aq v then k v else
 match v with
 | .agg cs=>lz aY r gs cs fun b6=>k (.agg b6)
 | v=>jK aY r gs v k
theorem Ref.gK {aY:Bool} {r:Nat} {gs:List (Nat×Nat×Nat)} {v:V} {k:V→ba} {k0:V→Act} (h: ∀v,Ref (k v) (k0 v)):Ref (pO aY r gs v k) (AM.gK aY r gs v k0):=by
 unfold pO AM.gK
 cases hp:V.aq v with
 | true=>simpa using h v
 | false=>
   simp only[cond_false,ZB,if_false]
   cases v
   case agg cs=>exact Ref.dB fun b6=>h _
   all_goals exact Ref.cN h
def ra (aY:Bool):Nat→List (Nat×Nat×Nat)→List V→(List V→ba)→ba
 | _,_,[],k=>k []
 | r,gs,v::vs,k=>pO aY r gs v fun v'=>ra aY (r+8) gs vs fun vs'=>k (v'::vs')
theorem Ref.gT {aY:Bool}: ∀ {vs:List V} {r:Nat} {gs:List (Nat×Nat×Nat)} {k:List V→ba} {k0:List V→Act},(∀v,Ref (k v) (k0 v))→Ref (ra aY r gs vs k) (AM.gT aY r gs vs k0)
 | [],_,_,_,_,h=>h _
 | _::_,_,_,_,_,h=>Ref.gK fun c'=>Ref.gT fun b6=>h _
def dF (aY:Bool) (r:Nat) (gs:List (Nat×Nat×Nat)) (v:V) (k:V→ba):ba:=
 bif V.aq v then k v else
 match v with
 | .tuple vs=>ra aY r gs vs fun vs'=>k (.tuple vs')
 | v=>pO aY r gs v k
theorem Ref.db {aY:Bool} {r:Nat} {gs:List (Nat×Nat×Nat)} {v:V} {k:V→ba} {k0:V→Act} (h: ∀v,Ref (k v) (k0 v)):Ref (dF aY r gs v k) (AM.db aY r gs v k0):=by
 unfold dF AM.db
 cases hp:V.aq v with
 | true=>simpa using h v
 | false=>
   simp only[cond_false,ZB,if_false]
   cases v
   case tuple cs=>exact Ref.gT fun b6=>h _
   all_goals exact Ref.gK h
def du (E:Env) (f:Nat):List (Option Nat):=match E.fn f with
 | some af=>af.gU
 | none=> []
def iI (E:Env) (r:Nat) (aY:Bool) (f:Nat) (args:List V):ba:=
 dQ ( r+8) args (du E f) 0 fun au rs ws=>
  .bu ((apart rs (ws.map (·.r)) &&distinct (ws.map (·.r)))=true) <| .call f au fun ⟨val,outs⟩=>
   match rs with
   | []=>fC ws outs fun gs=>dF aY r gs val .done
   | rs=>bif (V.isScalar val || re r aY val) &&outs.all (fun o=>V.aR o.2) then fC ws outs fun gs=>dF aY r gs val .done
     else lr rs (fC ws outs fun gs=>dF aY r gs val .done)
theorem Ref.jg {E:Env} {r:Nat} {aY:Bool} {f:Nat} {args:List V}:Ref (iI E r aY f args) (AM.jg E r aY f args):=by
 unfold iI AM.jg
 refine Ref.cQ fun au rs ws=> ?_
 intro hc
 simp only[hc,if_true]
 refine⟨_,rfl,fun ⟨val,outs⟩=> ?_⟩
 have Rq:Ref (fC ws outs fun gs=>dF aY r gs val .done) (AM.dE ws outs fun gs=>AM.db aY r gs val .done):=
   Ref.dE fun gs=>Ref.db fun v=>rfl
 cases rs with
 | nil=>
   simp only[cV]
   split<;>exact Rq
 | cons a rs=>
   simp only
   cases hb: ((V.isScalar val || re r aY val) &&outs.all fun o=>V.aR o.2) with
   | true=>simp only[cond_true,if_true];exact Rq
   | false=>simp only[cond_false,ZB,if_false];exact Ref.cV Rq
end Go.AM
namespace Go.AM
def tU (d:Nat) (o:Option V) (k:Nat→ba):ba:=match o with
 | none=>k d
 | some (.int _ n)=> .bu (0≤n) (k n.toNat)
 | some _=> .fail
theorem Ref.IT {d:Nat} {o:Option V} {k:Nat→ba} {a:Act} (h: ∀n,bU d o=some n→Ref (k n) a):Ref (tU d o k) a:=by
 unfold tU
 split
 ·exact h _ rfl
 ·rename_i K n
  intro h0
  exact h _ (by simp[bU,h0])
 ·trivial
def tV:List (Nat×Nat×aD)→(List (Nat×Nat×V)→ba)→ba
 | [],k=>k []
 | (off,sz,x)::ps,k=>eI x fun v=>tV ps fun vs=>k ((off,sz,v)::vs)
theorem Ref.jL: ∀ {ps:List (Nat×Nat×aD)} {k:List (Nat×Nat×V)→ba} {k0:List (Nat×Nat×V)→Act},(∀v,Ref (k v) (k0 v))→Ref (tV ps k) (AM.jL ps k0)
 | [],_,_,h=>h _
 | (_,_,_)::_,_,_,h=>Ref.ev fun v=>Ref.jL fun vs=>h _
def jh:List V→List (Nat×Nat×V)→Option (List V)
 | cs,[]=>some cs
 | cs,(off,sz,v)::rest=>bif ka v sz &&fq cs (off+sz) then jh (match v with
    | .agg vs=>takeN cs off++(vs++nZ cs (off+sz))
    | v=>xn cs off v) rest else none
theorem n9: ∀ {ps:List (Nat×Nat×V)} {cs out:List V},jh cs ps=some out→gi cs ps=some out
 | [],cs,out,h=>h
 | (off,sz,v)::rest,cs,out,h=>by
   simp only[jh] at h
   cases hb: (ka v sz &&fq cs (off+sz)) with
   | false=>simp[hb] at h
   | true=>
     simp only[hb,cond_true] at h
     simp only[Zt] at hb
     have h1:=kx hb.1
     have h2:=ku hb.2
     simp only[aJ,Zt,beq_iff_eq] at h1
     simp only[gi]
     rw[if_pos ⟨h1.1,h2,h1.2⟩]
     have ih:=n9 h
     rw[←ih]
     congr 1
     split
     ·rename_i vs
      simp[V.cells,pL,pM]
     ·rename_i hn
      have h3:v.cells=[v]:=by cases v<;>simp_all[V.cells]
      have h4:sz=1:=by rw[h3] at h1;simpa using h1.1.symm
      subst h4
      rw[tA,h3]
      simp[List.set_eq_take_append_cons_drop,show off<cs.length by omega]
def tW:List (Nat×aD)→(List (Nat×V)→ba)→ba
 | [],k=>k []
 | (i,x)::ps,k=>eI x fun v=>vw v fun v=>tW ps fun vs=>k ((i,v)::vs)
theorem Ref.gL: ∀ {ps:List (Nat×aD)} {k:List (Nat×V)→ba} {k0:List (Nat×V)→Act},(∀v,Ref (k v) (k0 v))→Ref (tW ps k) (AM.gL ps k0)
 | [],_,_,h=>h _
 | (_,_)::_,_,_,h=>Ref.ev fun v=>Ref.xp fun v'=>Ref.gL fun vs=>h _
def pP (sz:Nat):Nat→List (Nat×V)→Option (List V)
 | _,[]=>some []
 | i,(j,v)::rest=>bif Nat.beq i j &&ka v sz then(match pP sz (i+1) rest with| some vs=>some (v::vs) | none=>none) else none
def ji (sz:Nat):List V→List (Nat×V)→Option (List V)
 | es,[]=>some es
 | es,(i,v)::rest=>bif fq es (i+1) &&ka v sz then ji sz (xn es i v) rest else none
theorem oa {sz:Nat}: ∀ {ps:List (Nat×V)} {es out:List V},ji sz es ps=some out→cW sz es ps=some out
 | [],cs,out,h=>h
 | (i,v)::rest,es,out,h=>by
   simp only[ji] at h
   cases hb: (fq es (i+1) &&ka v sz) with
   | false=>simp[hb] at h
   | true=>
     simp only[hb,cond_true] at h
     simp only[Zt] at hb
     have h1:=kx hb.2
     have h2:=ku hb.1
     simp only[cW]
     rw[if_pos ⟨Zl,h1⟩,←tA]
     exact oa h
theorem tX {sz:Nat}: ∀ {ps:List (Nat×V)} {i:Nat} {vs pre es:List V},pP sz i ps=some vs→pre.length=i→es.length=ps.length→cW sz (pre++es) ps=some (pre++vs)
 | [],i,vs,pre,es,h,hp,he=>by
   simp only[pP,Zr] at h
   subst h
   have:es=[]:=by simpa using he
   simp[cW,this]
 | (j,v)::rest,i,vs,pre,es,h,hp,he=>by
   simp only[pP] at h
   cases hb: (Nat.beq i j &&ka v sz) with
   | false=>simp[hb] at h
   | true=>
     simp only[hb,cond_true] at h
     simp only[Zt] at hb
     have h1:=kx hb.2
     have h2:i=j:=ZT hb.1
     subst h2
     split at h
     ·rename_i vs' hv
      simp only[Zr] at h
      subst h
      cases es with
      | nil=>simp at he
      | cons e es=>
        simp only[cW]
        rw[if_pos ⟨by simp;omega,h1⟩]
        have: (pre++e::es).set i v=(pre++[v])++es:=by
         simp[List.set_append,hp]
        rw[this,tX hv (by simp[hp]) (by simpa using he)]
        simp
     ·simp at h
def pQ (sz:Nat) (x:V) (k:List V→ba):ba:=
 match x with
 | .nils=>k []
 | .lit sz' xs=>bif Nat.beq sz' sz then k xs else .fail
 | .sl r g off len=> .bn r fun ⟨bD,ec,cr,fA,eY⟩=>match eY with
   | some es=> .ex (List V) (fun ys=>aw es off len=ys) fun ys=> .bu (bD=g∧ec=sz∧off+len≤es.length) (k ys)
   | none=> .fail
 | .str s=>bif Nat.beq sz 1 then k (s.map fun b=> .int .u8 b.toNat) else .fail
 | _=> .fail
theorem Ref.content {sz:Nat} {x:V} {k:List V→ba} {k0:List V→Act} (h: ∀v,Ref (k v) (k0 v)):Ref (pQ sz x k) (AM.content sz x k0):=by
 unfold pQ AM.content
 cases x
 case nils=>exact h _
 case lit sz' xs=>
  cases hb:Nat.beq sz' sz with
  | true=>obtain rfl:=ZT hb;simp only[if_true,hb,cond_true];exact h _
  | false=>simp only[hb,cond_false];trivial
 case str s=>
  cases hb:Nat.beq sz 1 with
  | true=>obtain rfl:=ZT hb;simp only[if_true,hb,cond_true];exact h _
  | false=>simp only[hb,cond_false];trivial
 case sl r g off len=>
  refine⟨_,rfl,fun ⟨gen,sz,arr,fz,es⟩=> ?_⟩
  cases es with
  | none=>trivial
  | some es=>
    rintro ys rfl hc
    try simp only at hc
    simp only[hc,and_self,if_true]
    exact h _
 all_goals trivial
def xr ( r sz lim:Nat) (s:V) (ys:List V):ba:=
 .bu (ys.all (aJ · sz)=true) <| bif Nat.ble 1 sz then
 match s with
 | .nils=>match ys with
   | [y]=> .bu (1≤lim) (.pK r fun g=> .bl r {gen:=g,sz,arr:=true,fz:=false,es:=some [y]} (.done (.sl r g 0 1)))
   | ys=> .ite ys.isEmpty (.done .nils) (.bu (ys.length≤lim) (.pK r fun g=> .bl r {gen:=g,sz,arr:=true,fz:=false,es:=some ys} (.done (.sl r g 0 ys.length))))
 | .lit sz' xs=> .bu (ys=[]) (.done (.lit sz' xs))
 | .sl r' g off len=> .bn r' fun ⟨bD,ec,cr,fA,eY⟩=>match eY with
   | some es=> .bu (bD=g∧cr=true∧fA=false∧ec=sz) <| .alt
      (.bu (off=0∧es.length=len∧len+ys.length≤lim) (.all fun g'=> .bl r' {gen:=g',sz,arr:=true,fz:=false,es:=some (es++ys)} (.done (.sl r' g' 0 (len+ys.length)))))
      (.bu (off+len≤es.length∧len+ys.length≤lim) (.ite (decide (off+len+ys.length≤es.length))
        (.bl r' ⟨bD,ec,cr,fA,some (overwrite es (off+len) ys)⟩ (.done (.sl r' g off (len+ys.length))))
        (.bl r' ⟨g+1,ec,cr,fA,some (aw es off len++ys)⟩ (.done (.sl r' (g+1) 0 (len+ys.length))))))
   | none=> .fail
 | _=> .fail
 else .fail
theorem Ref.append {r sz lim:Nat} {s:V} {ys:List V}:Ref (xr r sz lim s ys) (Bg r sz lim s ys):=by
 intro hy
 cases hb:Nat.ble 1 sz with
 | false=>simp only[cond_false];trivial
 | true=>
   have hs:0 <sz:=aaA hb
   have hg: (ys.all (aJ · sz) &&decide (0 <sz))=true:=by simp only[Zt,decide_eq_true_eq];exact⟨hy,hs⟩
   simp only[cond_true,Bg,hg,if_true]
   cases s
   case nils=>
    simp only
    split
    · rename_i y
      intro hl
      simp only[List.isEmpty_cons,ZB,if_false,ZH,ZL,aaa,hl,if_true]
      exact⟨_,rfl,fun o=> ⟨_,rfl,rfl⟩⟩
    · refine⟨fun he=> ?_,fun he=> ?_⟩
      ·simp only[he,if_true];exact rfl
      ·  intro hl
         simp only[he,ZB,if_false,hl,if_true]
         exact⟨_,rfl,fun o=> ⟨_,rfl,rfl⟩⟩
   case lit sz' xs=>
    intro he
    simp only[he,List.isEmpty_nil,if_true];exact rfl
   case sl r' g off len=>
    refine⟨_,rfl,fun ⟨gen,sz',arr,fz,es⟩=> ?_⟩
    cases es with
    | none=>trivial
    | some es=>
      intro hc
      obtain⟨rfl,rfl,rfl,rfl⟩:=hc
      refine⟨?_,?_⟩
      ·  rintro⟨rfl,rfl,hl⟩
         simp only[aaa,Zy,hl,and_self,if_true]
         by_cases hn:ys=[]
         ·subst hn
          refine⟨gen,?_⟩
          simp only[aaU,ZL,aaz,Zy,if_true,overwrite,List.take_length,List.drop_length]
          exact⟨_,rfl,rfl⟩
         ·have hp:0 <ys.length:=List.length_pos_iff.2 hn
          refine⟨gen+1,?_⟩
          rw[if_neg Zl]
          simp only[aw,List.drop_zero,List.take_length]
          exact⟨_,rfl,rfl⟩
      ·  rintro⟨h1,h2⟩
         simp only[h1,h2,and_self,if_true]
         refine⟨fun hd=> ?_,fun hd=> ?_⟩
         ·simp only[decide_eq_true_eq] at hd
          rw[if_pos hd]
          exact⟨_,rfl,rfl⟩
         ·simp only[decide_eq_false_iff_not] at hd
          rw[if_neg hd]
          exact⟨_,rfl,rfl⟩
   all_goals trivial
def Lc (op:BinOp) (x y:V):ba:=
 match x,y with
 | .int k a,.int k' b=>
   match op with
   | .shl=> .bu (0≤b) (.done (.int k (k.wrap (a*2 ^ (min b.toNat k.bits)))))
   | .shr=> .bu (0≤b) (.done (.int k (a.fdiv (2 ^ (min b.toNat k.bits)))))
   | .quo=> .bu (k=k'∧b≠0) (.done (.int k (k.wrap (a.tdiv b))))
   | .rem=> .bu (k=k'∧b≠0) (.done (.int k (a.tmod b)))
   | .and=> .bu (k=k') (je (jM .and k a b))
   | .or=> .bu (k=k') (je (jM .or k a b))
   | .xor=> .bu (k=k') (je (jM .xor k a b))
   | .andNot=> .bu (k=k') (je (jM .andNot k a b))
   | .add=>bif decide (k=k') then .done (.int k (k.wrap (a+b))) else .fail
   | .sub=>bif decide (k=k') then .done (.int k (k.wrap (a - b))) else .fail
   | .mul=>bif decide (k=k') then .done (.int k (k.wrap (a*b))) else .fail
   | .eql=>bif decide (k=k') then .done (.bool (decide (a=b))) else .fail
   | .neq=>bif decide (k=k') then .done (.bool (!decide (a=b))) else .fail
   | .lss=>bif decide (k=k') then .done (.bool (decide (a<b))) else .fail
   | .leq=>bif decide (k=k') then .done (.bool (decide (a≤b))) else .fail
   | .gtr=>bif decide (k=k') then .done (.bool (decide (b<a))) else .fail
   | .geq=>bif decide (k=k') then .done (.bool (decide (b≤a))) else .fail
 | .str a,.str b=>
   match op with
   | .add=> .bu (a.length+b.length≤9223372036854775807) (.done (.str (a++b)))
   | .eql=> .done (.bool (decide (a=b)))
   | .neq=> .done (.bool (!decide (a=b)))
   | .lss=> .done (.bool (Op.bytesLess a b))
   | .leq=> .done (.bool (Op.bytesLess a b || decide (a=b)))
   | .gtr=> .done (.bool (!(Op.bytesLess a b || decide (a=b))))
   | .geq=> .done (.bool (!Op.bytesLess a b))
   | _=> .fail
 | _,_=> .fail
theorem Ref.IU {b:Bool} {x:ba} {a:Act} (h:b=true→Ref x a):Ref (bif b then x else .fail) a:=by
 cases b with
 | true=>simpa using h rfl
 | false=>trivial
theorem Ref.bin {op:BinOp} {x y:V}:Ref (Lc op x y) (AM.dq (oU op x y)):=by
 unfold Lc
 split
 ·rename_i k a k' b
  split
  case h_1=>intro h;simp[oU,show ¬b< 0 by omega,AM.dq,Ref]
  case h_2=>intro h;simp[oU,show ¬b< 0 by omega,AM.dq,Ref]
  case h_3=>intro h;simp[oU,h.1,h.2,AM.dq,Ref]
  case h_4=>intro h;simp[oU,h.1,h.2,AM.dq,Ref]
  case h_5=>intro h;simp only[oU,h,if_true];exact Ref.eJ
  case h_6=>intro h;simp only[oU,h,if_true];exact Ref.eJ
  case h_7=>intro h;simp only[oU,h,if_true];exact Ref.eJ
  case h_8=>intro h;simp only[oU,h,if_true];exact Ref.eJ
  all_goals exact Ref.IU fun h=>by simp only[decide_eq_true_eq] at h;simp[oU,h,AM.dq,Ref,Bn,xk,bne]
 ·rename_i a b
  split
  case h_1=>intro h;simp[oU,h,AM.dq,Ref]
  case h_8=>trivial
  all_goals simp[oU,AM.dq,Ref]
 ·trivial
def Ld (neg:Bool) (a b:V):ba:=
 match a,b with
 | .nilp,.nilp=> .done (.bool (true !=neg))
 | .nilp,.eptr .. | .nilp,.epk .. | .eptr ..,.nilp| .epk ..,.nilp=> .done (.bool (false !=neg))
 | .epk i z _ 0,.epk i' z' _ 0=> .bu (z=z'∧0 <z) (.done (.bool ((i==i') !=neg)))
 | _,_=> .fail
theorem Ref.Lf {neg:Bool} {a b:V}:Ref (Ld neg a b) (AM.dq ((C5 a b).map fun c=> .bool (c !=neg))):=by
 unfold Ld
 split
 all_goals first| exact rfl| trivial| skip
 intro h
 obtain⟨rfl,hz⟩:=h
 simp only[C5,hz,and_self,if_true,ZE]
 exact rfl
def Lg (sz:Nat) (v i:V):ba:=
 match v,i with
 | .sl r g off len,.int _ n=> .bn r fun ⟨bD,ec,cr,fA,eY⟩=> .bu (0≤n∧n<len∧ec=sz∧bD=g) (match off with
   | 0=> .done (.ptr r g n.toNat 0)
   | off=> .done (.ptr r g (off+n.toNat) 0))
 | .lit sz' xs,.int _ n=> .bu (0≤n∧sz'=sz) (.ex V (fun e=>xs[n.toNat]? =some e) fun e=> .done (.eptr e 0))
 | .litk sz' xs,.int _ n=> .bu (0≤n∧sz'=sz∧0 <sz) (.ex V (fun e=>xs[n.toNat]? =some e) fun e=> .done (.epk n.toNat sz e 0))
 | _,_=> .fail
theorem Ref.idx {sz:Nat} {v i:V}:Ref (Lg sz v i) (xi sz v i):=by
 unfold Lg
 split
 ·refine⟨_,rfl,fun ⟨gen,sz',arr,fz,es⟩=> ?_⟩
  intro h
  try simp only at h
  simp only[h,and_self,if_true]
  split
  ·simp[Ref]
  ·exact rfl
 ·intro h e he
  simp only[xi,h,and_self,if_true,he]
  exact rfl
 ·intro h e he
  obtain⟨h1,rfl,h3⟩:=h
  simp only[xi,h1,h3,and_self,if_true,he]
  exact rfl
 ·trivial
def Lh (sz:Nat) (v:V) (l h m:Option V):ba:=
 match m with
 | some mx=> (match v,h with
   | .sl r g off len,some hv=> .bn r fun ⟨bD,ec,cr,fA,eY⟩=>match eY with
     | some es=> .bu (bD=g∧ec=sz) <| tU 0 l fun l=>tU len (some hv) fun h=>tU 0 (some mx) fun m=> .bu (l≤h∧h≤m∧off+m≤es.length∧m≠l) (.done .any)
     | none=> .fail
   | _,_=> .fail)
 | none=>match v with
   | .sl r g off len=> .bn r fun ⟨bD,ec,cr,fA,eY⟩=>match eY with
     | some es=> .bu (bD=g∧ec=sz) <| tU 0 l fun l=>tU len h fun h=> .bu (l≤h∧off+h≤es.length) (.done (.sl r g (off+l) (h - l)))
     | none=> .fail
   | .lit sz' xs=> .bu (sz'=sz) <| tU 0 l fun l=>tU xs.length h fun h=> .bu (l≤h∧h≤xs.length) (.ex (List V) (fun ys=>aw xs l (h - l)=ys) fun ys=> .done (.lit sz ys))
   | .nils=>tU 0 l fun l=>tU 0 h fun h=> .bu (l≤h∧h≤0) (.done .nils)
   | _=> .fail
theorem Ref.Wb {sz:Nat} {v:V} {l h m:Option V}:Ref (Lh sz v l h m) (xj sz v l h m):=by
 unfold Lh
 split
 ·split
  ·rename_i mx _ _ r g off len hv
   refine⟨_,rfl,fun ⟨gen,sz',arr,fz,es⟩=> ?_⟩
   cases es with
   | none=>trivial
   | some es=>
     intro hc
     try simp only at hc
     simp only[hc,and_self,if_true]
     refine Ref.IT fun l' hl=>Ref.IT fun h' hh=>Ref.IT fun m' hm=> ?_
     intro hk
     simp only[hl,hh,hm,hk,and_self,if_true,if_false]
     exact rfl
  ·trivial
 ·split
  ·rename_i r g off len
   refine⟨_,rfl,fun ⟨gen,sz',arr,fz,es⟩=> ?_⟩
   cases es with
   | none=>trivial
   | some es=>
     intro hc
     try simp only at hc
     simp only[hc,and_self,if_true]
     refine Ref.IT fun l' hl=>Ref.IT fun h' hh=> ?_
     intro hk
     simp only[hl,hh,hk,and_self,if_true]
     exact rfl
  ·rename_i sz' xs
   intro hc
   refine Ref.IT fun l' hl=>Ref.IT fun h' hh=> ?_
   rintro hk ys rfl
   simp only[xj,tN,hc,if_true,hl,hh,hk,and_self,AM.dq]
   exact rfl
  ·refine Ref.IT fun l' hl=>Ref.IT fun h' hh=> ?_
   intro hk
   have h1:bU 0 none=some 0:=rfl
   simp only[xj,tN,hl,hh,h1,hk.1,hk.2,Option.isNone_none,AM.dq,Zy,and_self,or_true,if_true]
   exact rfl
  ·trivial
def tY (agg:Bool) (sz r g idx off:Nat) (v:V):ba:=
 .bn r fun ⟨bD,ec,cr,fA,eY⟩=>match eY with
  | some es=> .bu (bD=g∧fA=false) <| (match cr with
    | true=> .ex V (fun e=>es[idx]? =some e) fun e=>FV agg off sz e v fun e'=> .bl r ⟨bD,ec,cr,fA,some (es.set idx e')⟩ (.done (.tuple []))
    | false=>match es,idx with
      | [e],0=>FV agg off sz e v fun e'=> .bl r ⟨bD,ec,cr,fA,some [e']⟩ (.done (.tuple []))
      | es,idx=> .ex V (fun e=>es[idx]? =some e) fun e=>FV agg off sz e v fun e'=> .bl r ⟨bD,ec,cr,fA,some (es.set idx e')⟩ (.done (.tuple [])))
  | none=> .fail
theorem Ref.jj {agg:Bool} {sz r g idx off:Nat} {v:V}:Ref (tY agg sz r g idx off v) (av.jj agg sz r g idx off v):=by
 unfold tY av.jj
 simp only[IQ]
 refine⟨_,rfl,fun ⟨gen,sz',arr,fz,es⟩=> ?_⟩
 cases es with
 | none=>trivial
 | some es=>
   intro hc
   try simp only at hc
   simp only[hc,and_self,if_true]
   have D6:Ref (.ex V (fun e=>es[idx]? =some e) fun e=>match gS agg off sz e v with
      | some e'=> .bl r ⟨gen,sz',arr,fz,some (es.set idx e')⟩ (.done (.tuple []))
      | none=> .fail) (match es[idx]? with
        | some e=>match iG agg off sz e v with
          | some e'=> .bl r {gen:=gen,sz:=sz',arr:=arr,fz:=fz,es:=some (es.set idx e')} (.done (.tuple []))
          | none=> .fail
        | none=> .fail):=by
     intro e he
     simp only[he]
     cases hp:gS agg off sz e v with
     | none=>trivial
     | some e'=>simp only[sa hp];exact⟨_,rfl,rfl⟩
   rw[hc.1,hc.2] at D6
   cases arr with
   | true=>exact D6
   | false=>
     simp only
     split
     ·rename_i e
      simp only[List.getElem?_cons_zero]
      cases hp:gS agg off sz e v with
      | none=>trivial
      | some e'=>simp only[sa hp];exact⟨_,rfl,rfl⟩
     ·exact D6
def QH (E:Env):qS→ba
 | .move x=>eI x .done
 | .pick c a b=>eI c fun| .bool c=> .ite c (eI a .done) (eI b .done) | _=> .fail
 | .new r sz x=>eI x fun v=>bif ka v sz &&Nat.ble 1 sz then .pK r fun g=> .bl r {gen:=g,sz,arr:=false,fz:=false,es:=some [v]} (.done (.ptr r g 0 0)) else .fail
 | .build cells parts=>tV parts fun ps=>match jh cells ps with
   | some cs=>force cs fun cs=> .done (.agg cs)
   | none=> .fail
 | .buildSlice r sz zero n parts=>tW parts fun ps=>bif ka zero sz &&Nat.ble 1 sz &&Nat.ble (n*sz) 16777216 then(match (bif eX ps n then pP sz 0 ps else none) with
   | some es=> .pK r fun g=> .bl r {gen:=g,sz,arr:=true,fz:=false,es:=some es} (.done (.sl r g 0 n))
   | none=>match ji sz (List.replicate n zero) ps with
     | some es=> .pK r fun g=> .bl r {gen:=g,sz,arr:=true,fz:=false,es:=some es} (.done (.sl r g 0 n))
     | none=> .fail) else .fail
 | .pR r sz=>bif Nat.ble 1 sz then .pK r fun g=> .bl r {gen:=g,sz,arr:=true,fz:=false,es:=some []} (.done (.sl r g 0 0)) else .fail
 | .QI r x=>eI x fun
   | .sl r1 g off len=>bif Nat.beq r1 r then .done (.sl r1 g off len) else .bn r1 fun ⟨bD,ec,cr,fA,eY⟩=> .bu (bD=g) (.pK r fun g'=>
       .bl r ⟨g',ec,cr,fA,eY⟩ (.bl r1 ⟨bD+1,ec,cr,fA,none⟩ (.done (.sl r g' off len))))
   | v=> .done v
 | .load agg sz x=>eI x fun
   | .ptr r g idx off=> .bn r fun ⟨bD,ec,cr,fA,eY⟩=>match eY with
     | some es=> .bu (bD=g) (match cr with
       | true=> .ex V (fun e=>es[idx]? =some e) fun e=>mq agg off sz e
       | false=>match es,idx with
         | [e],0=>mq agg off sz e
         | es,idx=> .ex V (fun e=>es[idx]? =some e) fun e=>mq agg off sz e)
     | none=> .fail
   | .eptr e off=>mq agg off sz e
   | .epk _ _ e off=>mq agg off sz e
   | _=> .fail
 | .store agg sz x v=>eI x fun
   | .ptr r g idx off=> .bn r fun ⟨bD,ec,cr,fA,eY⟩=>match cr with
     | true=>eI v fun v=>vw v fun v=>tY agg sz r g idx off v
     | false=>eI v fun v=>tY agg sz r g idx off v
   | _=> .fail
 | .nilCheck x=>eI x fun
   | .ptr r g idx off=> .done (.ptr r g idx off)
   | .eptr e off=> .done (.eptr e off)
   | .epk i z e off=> .done (.epk i z e off)
   | .fn f caps=> .done (.fn f caps)
   | .bfn f caps=> .done (.bfn f caps)
   | _=> .fail
 | .bin op x y=>eI x fun a=>eI y fun b=>Lc op a b
 | .Nj neg ks x y=>eI x fun a=>eI y fun b=>match a,b with
   | .agg au,.agg bs=>match cu ks au bs with
       | some b=> .done (.bool (b !=neg))
       | none=> .fail
   | _,_=> .fail
 | .un op x=>eI x fun a=>je (Rs op a)
 | .pS k x=>eI x fun| .int _ n=> .done (.int k (k.wrap n)) | _=> .fail
 | .tZ x=>eI x fun| .int _ n=> .done (.float (FloatKind.f64.nearest n)) | _=> .fail
 | .ua k x=>eI x fun
   | .float b=> .ex Int (fun n=> (FloatKind.f64.decode b).toInt .zero=some n∧k.min≤n∧n≤k.max) fun n=> .done (.int k n)
   | _=> .fail
 | .ub f caps=>y4 caps fun vs=> .done (.fn f vs)
 | .slice sz x lo hi mx=>eI x fun v=>IS lo fun l=>IS hi fun h=>IS mx fun m=>Lh sz v l h m
 | .fieldAddr off x=>eI x fun
   | .ptr r g idx o=> .done (.ptr r g idx (o+off))
   | .eptr e o=> .done (.eptr e (o+off))
   | .epk i z e o=> .done (.epk i z e (o+off))
   | _=> .fail
 | .indexAddr sz x i=>eI x fun v=>eI i fun i=>Lg sz v i
 | .mr n sz x i=>eI x fun v=>eI i fun i=>match v,i with
   | .ptr r g idx off,.int _ j=> .bu (0≤j∧j<n) (.done (.ptr r g idx (off+j.toNat*sz)))
   | .eptr e off,.int _ j=> .bu (0≤j∧j<n) (.done (.eptr e (off+j.toNat*sz)))
   | _,_=> .fail
 | .mu x i=>eI x fun v=>eI i fun i=>match v,i with
   | .str s,.int _ n=> .bu (0≤n) (.ex UInt8 (fun b=>s[n.toNat]? =some b) fun b=> .done (.int .u8 b.toNat))
   | _,_=> .fail
 | .len x=>eI x fun v=>je (IL v)
 | .ud x=>eI x fun| .str s=> .done (.int .i64 s.length) | _=> .fail
 | .min xs=>y4 xs fun vs=>je (lU min2 vs)
 | .max xs=>y4 xs fun vs=>je (lU max2 vs)
 | .append r sz lim s x=>eI s fun s=>eI x fun x=>pQ sz x fun ys=>C4 ys fun ys=>xr r sz lim s ys
 | .clear sz zero x=>eI x fun
   | .nils=> .done (.tuple [])
   | .sl r g off len=> .bn r fun ⟨bD,ec,cr,fA,eY⟩=>match eY with
     | some es=> .bu (bD=g∧cr=true∧fA=false∧ec=sz∧off+len≤es.length∧aJ zero sz=true)
         (.bl r ⟨bD,ec,cr,fA,some (overwrite es off (List.replicate len zero))⟩ (.done (.tuple [])))
     | none=> .fail
   | _=> .fail
 | .extract x i=>eI x fun
   | .tuple vs=>je (nth vs i)
   | _=> .fail
 | .call r aY f args=>eI f fun
   | .fn f caps=>y4 args fun au=>bif Nat.beq (r % 16) 4 then .Ni (AM.jg E r aY f (au++caps)) else iI E r aY f (au++caps)
   | .bfn f first=>y4 args fun au=>match xt first,E.xl f with
     | some (r',g),some h=> .bn r' fun ⟨bD,ec,cr,fA,eY⟩=>match eY with
       | some es=> .bu (bD=g∧ec=0∧fA=false∧V.aR au=true∧es.all V.isTuple=true) (.ex (V×List V) (fun p=>h es au=some p) fun p=> .bl r' ⟨bD,ec,cr,fA,some p.2⟩ (.done p.1))
       | none=> .fail
     | _,_=>iI E r aY f (first++au)
   | _=> .fail
 | .deep x=>eI x fun v=> .Ni (xu v)
 | .vV ks agg sz x=>eI x fun
   | .ptr r g idx off=> .bn r fun ⟨bD,ec,cr,fA,eY⟩=>match eY with
     | some es=> .bu (bD=g) (match es,idx with
       | [e],0=>je ((tP agg off sz e).map (A0 ks))
       | _,_=> .fail)
     | none=> .fail
   | _=> .fail
 | .mkMap r=> .pK r fun g=> .bl r {gen:=g,sz:=0,arr:=false,fz:=false,es:=some []} (.done (.mp r g))
 | .rf q x k v=>eI x fun
   | .mp r g=>eI k fun k=>eI v fun v=>vw v fun v=> .bn r fun ⟨bD,ec,cr,fA,eY⟩=>match eY with
     | some es=> .bu (bD=g∧ec=0∧fA=false∧isKey q k=true∧v.cq=true) (.ex (List V) (fun es'=>mw k v es=some es') fun es'=>
         .bl r ⟨bD,ec,cr,fA,some es'⟩ (.done (.tuple [])))
     | none=> .fail
   | _=> .fail
 | .ue q ok zero x k=>eI x fun x=>eI k fun k=> .bu (isKey q k=true) (match x with
   | .mp r g=> .bn r fun ⟨bD,ec,cr,fA,eY⟩=>match eY with
     | some es=> .bu (bD=g∧ec=0) (.ex V (fun v=>iJ ok zero es k= .done v) fun v=> .done v)
     | none=> .fail
   | .mlit es=> .ex V (fun v=>iJ ok zero es k= .done v) fun v=> .done v
   | _=> .fail)
 | .nr ks x k v=>eI x fun
   | .mp r g=>eI k fun k=>eI v fun v=>vw v fun v=> .bn r fun ⟨bD,ec,cr,fA,eY⟩=>match eY with
     | some es=> .bu (bD=g∧ec=0∧fA=false∧(eP ks k k).isSome=true∧v.cq=true) (.ex (List V) (fun es'=>jN ks k v es=some es') fun es'=>
         .bl r ⟨bD,ec,cr,fA,some es'⟩ (.done (.tuple [])))
     | none=> .fail
   | _=> .fail
 | .ns ks ok zero x k=>eI x fun x=>eI k fun k=> .bu ((eP ks k k).isSome=true) (match x with
   | .mp r g=> .bn r fun ⟨bD,ec,cr,fA,eY⟩=>match eY with
     | some es=> .bu (bD=g∧ec=0) (.ex V (fun v=>eZ ks ok zero es k= .done v) fun v=> .done v)
     | none=> .fail
   | .mlit es=> .ex V (fun v=>eZ ks ok zero es k= .done v) fun v=> .done v
   | _=> .fail)
 | .iK ks x k=>eI x fun
   | .mp r g=>eI k fun k=> .bn r fun ⟨bD,ec,cr,fA,eY⟩=>match eY with
     | some es=> .bu (bD=g∧ec=0∧vx ks k=true∧es.all (Bp ks)=true) (.done (dG ks k es))
     | none=> .fail
   | _=> .fail
 | .iL ks x k=>eI x fun
   | .mp r g=>eI k fun k=> .bn r fun ⟨bD,ec,cr,fA,eY⟩=>match eY with
     | some es=> .bu (bD=g∧ec=0∧fA=false∧vx ks k=true∧es.all (Bp ks)=true) (.ex (V×List V) (fun p=>match fD ks k 0 es with
          | some (some (j,v))=>p=(.tuple [v,.int .i64 j],es)
          | some none=>p=(.tuple [.int .i64 0,.int .i64 es.length],es++[.tuple [k,.int .i64 0]])
          | none=>False) fun p=> .bl r ⟨bD,ec,cr,fA,some p.2⟩ (.done p.1))
     | none=> .fail
   | _=> .fail
 | .uf agg sz x v=>eI x fun
   | .ptr r g idx off=>eI v fun v=>tY agg sz r g idx off v
   | _=> .fail
 | .pT .. => .fail
 | .pU x s v=>eI x fun
   | .mp r g=>eI s fun
     | .int .i64 j=>eI v fun v=>vw v fun v=> .bn r fun ⟨bD,ec,cr,fA,eY⟩=>match eY with
       | some es=> .bu (bD=g∧ec=0∧fA=false∧v.cq=true∧0≤j) (.ex (List V) (fun es'=> ∃k' w,es[j.toNat]? =some (.tuple [k',w])∧es'=es.set j.toNat (.tuple [k',v])) fun es'=> .bl r ⟨bD,ec,cr,fA,some es'⟩ (.done (.tuple [])))
       | none=> .fail
     | _=> .fail
   | _=> .fail
 | .pV i r sz lim s x=>eI (.tmp i) fun
   | .int _ j=>eI s fun s=>eI x fun x=>pQ sz x fun ys=>C4 ys fun ys=>xr (r+16*j.toNat) sz lim s ys
   | _=> .fail
 | .FW x=>eI x fun v=> (match v with
   | .fn .. =>fB 5 v fun v' rs=>lr rs (.done v')
   | _=>vw v .done)
 | .Lf neg x y=>eI x fun a=>eI y fun b=>Ld neg a b
 | .mapIter r x=>eI x fun
   | .mlit es=> .pK r fun g=> .bl r {gen:=g,sz:=0,arr:=false,fz:=false,es:=some [.mlit es]} (.done (.it r g))
   | _=> .fail
 | .pW f xs=>y4 xs fun vs=> .done (.bfn f vs)
 | .pX f caps=>tT caps fun vs=> .done (.fn f vs)
 | .bad=> .fail
theorem Ref.op {E:Env} {o:qS}:Ref (QH E o) (av E o):=by
 cases o with
 | mkMap r=>exact⟨_,rfl,fun o=> ⟨_,rfl,rfl⟩⟩
 | FW x=>
   refine Ref.ev fun v=> ?_
   cases v with
   | fn f caps=>exact Ref.ek fun v' rs=>Ref.cV rfl
   | _=>exact Ref.xp fun v=>rfl
 | rf q x k v=>
   refine Ref.ev fun x=> ?_
   cases x<;>first| trivial| skip
   refine Ref.ev fun k=>Ref.ev fun v=>Ref.xp fun v=> ⟨_,rfl,fun ⟨gen,sz,arr,fz,es⟩=> ?_⟩
   cases es with
   | none=>trivial
   | some es=>
     rintro hc es' he
     simp only[hc,he,and_self,if_true]
     exact⟨_,by simp[hc],rfl⟩
 | ue q ok zero x k=>
   refine Ref.ev fun x=>Ref.ev fun k=> ?_
   intro hk
   simp only[hk,if_true]
   cases x<;>first| trivial| skip
   case mp r g=>
     refine⟨_,rfl,fun ⟨gen,sz,arr,fz,es⟩=> ?_⟩
     cases es with
     | none=>trivial
     | some es=>
       rintro hc v hv
       show (if gen=g∧sz=0 then iJ ok zero es k else Act.fail)= .done v
       rw[if_pos hc]
       exact hv
   case mlit es=>
     rintro v hv
     exact hv
 | nr ks x k v=>
   refine Ref.ev fun x=> ?_
   cases x<;>first| trivial| skip
   refine Ref.ev fun k=>Ref.ev fun v=>Ref.xp fun v=> ⟨_,rfl,fun ⟨gen,sz,arr,fz,es⟩=> ?_⟩
   cases es with
   | none=>trivial
   | some es=>
     rintro hc es' he
     simp only[hc,he,and_self,if_true]
     exact⟨_,by simp[hc],rfl⟩
 | ns ks ok zero x k=>
   refine Ref.ev fun x=>Ref.ev fun k=> ?_
   intro hk
   simp only[hk,if_true]
   cases x<;>first| trivial| skip
   case mp r g=>
     refine⟨_,rfl,fun ⟨gen,sz,arr,fz,es⟩=> ?_⟩
     cases es with
     | none=>trivial
     | some es=>
       rintro hc v hv
       show (if gen=g∧sz=0 then eZ ks ok zero es k else Act.fail)= .done v
       rw[if_pos hc]
       exact hv
   case mlit es=>
     rintro v hv
     exact hv
 | iK ks x k=>
   refine Ref.ev fun x=> ?_
   cases x<;>first| trivial| skip
   refine Ref.ev fun k=> ⟨_,rfl,fun ⟨gen,sz,arr,fz,es⟩=> ?_⟩
   cases es with
   | none=>trivial
   | some es=>
     rintro⟨c1,c2,c3,c4⟩
     show Bq _ _ _ _=_
     simp only[iz,ZE,Bq,c4,c1,c2,c3,and_self,if_true]
 | iL ks x k=>
   refine Ref.ev fun x=> ?_
   cases x<;>first| trivial| skip
   refine Ref.ev fun k=> ⟨_,rfl,fun ⟨gen,sz,arr,fz,es⟩=> ?_⟩
   cases es with
   | none=>trivial
   | some es=>
     rintro hc ⟨u,es'⟩ he
     simp only[hc,and_self,if_true]
     revert he
     cases fD ks k 0 es with
     | none=>exact fun he=>he.elim
     | some q=>
       cases q with
       | none=>intro he;simp only[Zw] at he;obtain⟨rfl,rfl⟩:=he;exact⟨_,by simp[hc],rfl⟩
       | some p=>intro he;obtain⟨j,w⟩:=p;simp only[Zw] at he;obtain⟨rfl,rfl⟩:=he;exact⟨_,by simp[hc],rfl⟩
 | uf agg sz x v=>
   refine Ref.ev fun v=> ?_
   cases v<;>first| trivial| skip
   exact Ref.ev fun v=>Ref.jj
 | pT ks zero x k=>trivial
 | pU x s v=>
   refine Ref.ev fun x=> ?_
   cases x<;>first| trivial| skip
   refine Ref.ev fun s=> ?_
   cases s<;>first| trivial| skip
   rename_i kk j
   cases kk<;>first| trivial| skip
   refine Ref.ev fun v=>Ref.xp fun v=> ⟨_,rfl,fun ⟨gen,sz,arr,fz,es⟩=> ?_⟩
   cases es with
   | none=>trivial
   | some es=>
     rintro hc es' ⟨k',w,he,rfl⟩
     simp only[hc,he,and_self,if_true]
     exact⟨_,by simp[hc],rfl⟩
 | pV i r sz lim s x=>
   refine⟨_,rfl,fun v=> ?_⟩
   cases v<;>first| trivial| skip
   exact Ref.ev fun s=>Ref.ev fun x=>Ref.content fun ys=>Ref.ml fun ys=>Ref.append
 | deep=>exact Ref.ev fun v=>rfl
 | vV ks agg sz x=>
   refine Ref.ev fun v=> ?_
   cases v<;>first| trivial| skip
   case ptr r g idx off=>
     refine⟨_,rfl,fun ⟨gen,sz',arr,fz,es⟩=> ?_⟩
     cases es with
     | none=>trivial
     | some es=>
       intro hc
       try simp only at hc
       simp only[hc,if_true]
       split
       · simp only[List.getElem?_cons_zero]
         exact Ref.dq fun v hv=>by
           obtain⟨v0,h0,rfl⟩:=Zq.1 hv
           rw[ky h0];rfl
       ·trivial
 | move x=>exact Ref.ev fun v=>rfl
 | pick c a b=>
   refine Ref.ev fun v=> ?_
   cases v
   case bool c=>cases c with
     | true=>exact⟨fun _=>Ref.ev (fun v=>rfl),fun h=> (by cases h)⟩
     | false=>exact⟨fun h=> (by cases h),fun _=>Ref.ev (fun v=>rfl)⟩
   all_goals trivial
 | new r sz x=>
   refine Ref.ev fun v=>Ref.IU fun h=> ?_
   simp only[Zt] at h
   have h1:=kx h.1
   have h2:0 <sz:=aaA h.2
   simp only[h1,h2,decide_true,Z6,if_true]
   exact⟨_,rfl,fun o=> ⟨_,rfl,rfl⟩⟩
 | build cells parts=>
   refine Ref.jL fun ps=> ?_
   cases hf:jh cells ps with
   | none=>trivial
   | some cs=>simp only[n9 hf,force_eq];exact rfl
 | buildSlice r sz zero n parts=>
   refine Ref.gL fun ps=>Ref.IU fun h=> ?_
   simp only[Zt] at h
   have h1:=kx h.1.1
   have h2:0 <sz:=aaA h.1.2
   have h3:n*sz≤16777216:=aaA h.2
   split
   · rename_i es he
     have hl:eX ps n=true:=by
       cases hb:eX ps n with
       | true=>rfl
       | false=>simp[hb] at he
     simp only[hl,cond_true] at he
     have h4:=tX (pre:=[]) (es:=List.replicate n zero) he rfl (by simp[kr hl])
     simp only[Z8] at h4
     simp only[h4,h1,h2,h3,and_self,decide_true,Z6,if_true]
     exact⟨_,rfl,fun o=> ⟨_,rfl,rfl⟩⟩
   · cases hf:ji sz (List.replicate n zero) ps with
     | none=>trivial
     | some es=>
       simp only[oa hf,h1,h2,h3,and_self,decide_true,Z6,if_true]
       exact⟨_,rfl,fun o=> ⟨_,rfl,rfl⟩⟩
 | pR r sz=>
   refine Ref.IU fun h=> ?_
   have h2:0 <sz:=aaA h
   simp only[av,h2,if_true]
   exact⟨_,rfl,fun o=> ⟨_,rfl,rfl⟩⟩
 | QI r x=>
   refine Ref.ev fun v=> ?_
   cases v
   case sl r1 g off len=>
     cases hb:Nat.beq r1 r with
     | true=>
       obtain rfl:=ZT hb
       simp only[if_true,hb,cond_true]
       exact rfl
     | false=>
       have:r1≠r:=Nat.ne_of_beq_eq_false hb
       simp only[hb,cond_false,this,if_false]
       refine⟨_,rfl,fun ⟨gen,sz',arr,fz,es⟩=> ?_⟩
       intro hg
       have Rt:gen=g:=hg
       subst Rt
       simp only[if_true]
       exact⟨_,rfl,fun o=> ⟨_,rfl,_,rfl,rfl⟩⟩
   all_goals exact rfl
 | load agg sz x=>
   refine Ref.ev fun v=> ?_
   cases v<;>first| trivial| skip
   case ptr r g idx off=>
     refine⟨_,rfl,fun ⟨gen,sz',arr,fz,es⟩=> ?_⟩
     cases es with
     | none=>trivial
     | some es=>
       intro hc
       try simp only at hc
       simp only[hc,if_true]
       have D6:Ref (.ex V (fun e=>es[idx]? =some e) fun e=>mq agg off sz e) (match es[idx]? with
         | some e=>AM.dq (part agg off sz e)
         | none=> .fail):=by
         intro e he
         simp only[he]
         rw[pN];exact Ref.dq fun v hv=>ky hv
       cases arr with
       | true=>exact D6
       | false=>
         simp only
         split
         ·rw[pN];exact Ref.dq fun v hv=>ky hv
         ·exact D6
   case eptr e off=>simp only[pN];exact Ref.dq fun v hv=>ky hv
   case epk i z e off=>simp only[pN];exact Ref.dq fun v hv=>ky hv
 | store agg sz x v=>
   refine Ref.ev fun v=> ?_
   cases v<;>first| trivial| skip
   refine⟨_,rfl,fun ⟨gen,sz',arr,fz,es⟩=> ?_⟩
   cases arr with
   | true=>exact Ref.ev fun v=>Ref.xp fun v=>Ref.jj
   | false=>exact Ref.ev fun v=>Ref.jj
 | nilCheck x=>exact Ref.ev fun v=>by cases v<;>first| trivial| exact rfl
 | bin op x y=>exact Ref.ev fun a=>Ref.ev fun b=>Ref.bin
 | Nj neg ks x y=>
   refine Ref.ev fun a=>Ref.ev fun b=> ?_
   cases a<;>first| trivial| skip
   cases b<;>first| trivial| skip
   rename_i au bs
   simp only
   cases cu ks au bs with
   | none=>trivial
   | some b=>exact rfl
 | un op x=>exact Ref.ev fun a=>Ref.eJ
 | pS k x=>exact Ref.ev fun v=>by cases v<;>first| trivial| exact rfl
 | tZ x=>exact Ref.ev fun v=>by cases v<;>first| trivial| exact rfl
 | ua k x=>
   refine Ref.ev fun v=> ?_
   cases v<;>first| trivial| skip
   rintro n ⟨h1,h2,h3⟩
   simp only[h1,h2,h3,and_self,if_true]
   exact rfl
 | ub f caps=>exact Ref.yM fun v=>rfl
 | slice sz x lo hi mx=>
   rw[D4]
   exact Ref.ev fun v=>Ref.Fo fun l=>Ref.Fo fun h=>Ref.Fo fun m=>Ref.Wb
 | fieldAddr off x=>exact Ref.ev fun v=>by cases v<;>first| trivial| exact rfl
 | indexAddr sz x i=>
   rw[vv]
   exact Ref.ev fun v=>Ref.ev fun i=>Ref.idx
 | mr n sz x i=>
   refine Ref.ev fun v=>Ref.ev fun i=> ?_
   cases v<;>first| trivial| skip
   all_goals
     cases i<;>first| trivial| skip
     intro h
     simp only[h,and_self,if_true]
     exact rfl
 | mu x i=>
   refine Ref.ev fun v=>Ref.ev fun i=> ?_
   cases v<;>first| trivial| skip
   cases i<;>first| trivial| skip
   intro h b hb
   simp only[h,if_true,hb]
   exact rfl
 | len x=>exact Ref.ev fun v=>Ref.eJ
 | ud x=>exact Ref.ev fun v=>by cases v<;>first| trivial| exact rfl
 | min xs=>exact Ref.yM fun vs=>Ref.eJ
 | max xs=>exact Ref.yM fun vs=>Ref.eJ
 | append r sz lim s x=>
   rw[Bh]
   exact Ref.ev fun s=>Ref.ev fun x=>Ref.content fun ys=>Ref.ml fun ys=>Ref.append
 | clear sz zero x=>
   refine Ref.ev fun d=> ?_
   cases d<;>first| trivial| exact rfl| skip
   refine⟨_,rfl,fun ⟨gen,sz',arr,fz,es⟩=> ?_⟩
   cases es with
   | none=>trivial
   | some es=>
     intro hc
     try simp only at hc
     simp only[hc,and_self,if_true]
     exact⟨_,by simp[hc],rfl⟩
 | extract x i=>
   refine Ref.ev fun v=> ?_
   cases v<;>first| trivial| skip
   simp only[Bl]
   exact Ref.eJ
 | call r aY f args=>
   refine Ref.ev fun v=> ?_
   cases v<;>first| trivial| skip
   case fn g caps=>
     refine Ref.yM fun au=> ?_
     cases hb:Nat.beq (r % 16) 4 with
     | true=>simp only[cond_true];exact rfl
     | false=>simp only[cond_false];exact Ref.jg
   case bfn g first=>
     refine Ref.yM fun au=> ?_
     cases xt first with
     | none=>exact Ref.jg
     | some p=>
       obtain⟨r',g'⟩:=p
       cases E.xl g with
       | none=>exact Ref.jg
       | some h=>
         refine⟨_,rfl,fun ⟨gen,sz,arr,fz,es⟩=> ?_⟩
         cases es with
         | none=>trivial
         | some es=>
           rintro hc ⟨u,es'⟩ he
           simp only[hc,he,and_self,if_true]
           exact⟨_,by simp[hc],rfl⟩
 | Lf neg x y=>exact Ref.ev fun a=>Ref.ev fun b=>Ref.Lf
 | mapIter r x=>
   refine Ref.ev fun v=> ?_
   cases v<;>first| trivial| exact⟨_,rfl,fun o=> ⟨_,rfl,rfl⟩⟩
 | pW f xs=>exact Ref.yM fun vs=>rfl
 | pX f caps=>exact Ref.iH fun vs=>rfl
 | bad=>trivial
end Go.AM
namespace Go.AM
def C6 (E:Env) (o:bC):ba:=match o.guard with
 | none=>QH E o.op
 | some (t,want)=> .kq t fun
   | .bool b=> (match want with
     | true=> .ite b (QH E o.op) (.done cY)
     | false=> .ite b (.done cY) (QH E o.op))
   | .tuple []=> .done cY
   | _=> .fail
theorem Ref.oper {E:Env} {o:bC}:Ref (C6 E o) (bX E o):=by
 unfold C6 bX
 cases o.guard with
 | none=>exact Ref.op
 | some p=>
   obtain⟨t,want⟩:=p
   refine⟨_,rfl,fun v=> ?_⟩
   cases v<;>first| trivial| skip
   case bool b=>cases b<;>cases want<;>simp[Ref,Ref.op]
   case tuple vs=>cases vs with
    | nil=>exact rfl
    | cons=>trivial
def D7 (E:Env):List bC→SS→(SS→Prop)→Prop
 | [],S,Q=>Q S
 | o::os,S,Q=>ei E (C6 E o) S fun v S' _ _=>match S' with
   | ⟨T,O⟩=>match o.dst with
     | some d=>D7 E os ⟨(d,v)::T,O⟩ Q
     | none=>D7 E os ⟨T,O⟩ Q
def D8 (E:Env):List bC→SS→(List dn→SS→Prop)→Prop
 | [],S,Q=>Q [] S
 | o::os,S,Q=>ei E (C6 E o) S fun v S' r w=>match S' with
   | ⟨T,O⟩=>match o.dst with
     | some d=>D8 E os ⟨(d,v)::T,O⟩ fun fs Li=>Q (dt o.op ⟨r,.t d::w⟩::fs) Li
     | none=>D8 E os ⟨T,O⟩ fun fs Li=>Q (dt o.op ⟨r,w⟩::fs) Li
section
variable {E:Env}
theorem Bt {a:Act} {σ:St} {Q:V→St→Prop} (h:tx E a σ fun v σ' _ _=>Q v σ'):Rn E a σ Q:=by
 obtain⟨n,v,σ',h1,h2⟩:=h
 exact⟨n,v,σ',h1,h2⟩
theorem oV: ∀ {os:List bC} {S:SS} {Q:SS→Prop} {σ:St},D7 E os S Q→S.On σ→Kd E os σ fun σ'=> ∃S',S'.On σ'∧Q S'
 | [],S,Q,σ,h,ho=>by rw[IH];exact⟨S,ho,h⟩
 | o::os,S,Q,σ,h,ho=>by
   rw[FG]
   refine Bt (mi (cm Ref.oper h ho) ?_)
   rintro v σ' r w ⟨⟨T,O⟩,qT,h'⟩
   have hp:=qT.put o.dst v
   cases hd:o.dst with
   | none=>simp only[hd] at h' hp ⊢;exact oV h' hp
   | some d=>simp only[hd] at h' hp ⊢;exact oV h' hp
theorem oW: ∀ {os:List bC} {S:SS} {Q:List dn→SS→Prop} {σ:St},D8 E os S Q→S.On σ→NV E os σ fun fs σ'=> ∃S',S'.On σ'∧Q fs S'
 | [],S,Q,σ,h,ho=>by rw[IK];exact⟨S,ho,h⟩
 | o::os,S,Q,σ,h,ho=>by
   rw[FP]
   refine mi (cm Ref.oper h ho) ?_
   rintro v σ' r w ⟨⟨T,O⟩,qT,h'⟩
   have hp:=qT.put o.dst v
   cases hd:o.dst with
   | none=>simp only[hd] at h' hp ⊢;exact oW h' hp
   | some d=>simp only[hd] at h' hp ⊢;exact oW h' hp
def thenS (Q:aN→SS→Prop) (k:SS→Prop):aN→SS→Prop
 | .normal,S=>k S
 | .exit id,S=>Q (.exit id) S
 | .ret,S=>Q .ret S
def D9 (id:Nat) (Q:aN→SS→Prop):aN→SS→Prop
 | .exit jF,S=>bif Nat.beq jF id then Q .normal S else Q (.exit jF) S
 | .normal,S=>Q .normal S
 | .ret,S=>Q .ret S
structure a8 (E:Env) (b:aM) (S:SS) (Q:aN→SS→Prop):Prop where
 h: ∀σ,S.On σ→kn E (.loop b) σ fun e σ'=> ∃S',S'.On σ'∧Q e S'
structure FX (E:Env) (it nx ne id:Nat) (kT kO:List Nat) (h0 b l:aM) (S:SS) (Q:aN→SS→Prop):Prop where
 h: ∀σ,S.On σ→kn E (.keys it nx ne id kT kO h0 b l) σ fun e σ'=> ∃S',S'.On σ'∧Q e S'
structure rj (E:Env) (x:aD) (ps:List Nat) (a b:aM) (S:SS) (Q:aN→SS→Prop):Prop where
 h: ∀σ,S.On σ→kn E (.mh x ps a b) σ fun e σ'=> ∃S',S'.On σ'∧Q e S'
def oe (E:Env):aM→SS→(aN→SS→Prop)→Prop
 | .skip,S,Q=>Q .normal S
 | .region ops,S,Q=>D7 E ops S (Q .normal)
 | .drawn ops,S,Q=>D8 E ops S fun fs S'=>oS (Kf (ops.map (·.pre)) [] [] fs=true) (Q .normal S')
 | .seq a b,S,Q=>oe E a S (thenS Q fun S'=>oe E b S' Q)
 | .cond c a b,S,Q=>match c with
   | .tmp t=> (match lk S.T t with
     | some (.bool c)=>Br c (oe E a S Q) (oe E b S Q)
     | _=>False)
   | .const (.bool c)=>Br c (oe E a S Q) (oe E b S Q)
   | _=>False
 | .block id b,S,Q=>oe E b S (D9 id Q)
 | .loop b,S,Q=>a8 E b S Q
 | .exit id,S,Q=>Q (.exit id) S
 | .ret,S,Q=>Q .ret S
 | .scope b,S,Q=>oe E b S Q
 | .bad,_,_=>False
 | .mh x ps a b,S,Q=>rj E x ps a b S Q
 | .keys it nx ne id kT kO h0 b l,S,Q=>FX E it nx ne id kT kO h0 b l S Q
theorem bW: ∀ {c:aM} {S:SS} {Q:aN→SS→Prop} {σ:St},oe E c S Q→S.On σ→kn E c σ fun e σ'=> ∃S',S'.On σ'∧Q e S'
 | .skip,S,Q,σ,h,ho=>by rw[tM];exact⟨S,ho,h⟩
 | .region ops,S,Q,σ,h,ho=>by rw[Be];exact oV h ho
 | .drawn ops,S,Q,σ,h,ho=>by
   refine xh ?_
   have h1:=oW h ho
   refine pJ h1 ?_
   rintro fs σ' ⟨S',h2,h3,h4⟩
   exact⟨h3,S',h2,h4⟩
 | .seq a b,S,Q,σ,h,ho=>by
   rw[C1]
   refine dP (bW (c:=a) h ho) ?_
   rintro e σ' ⟨S',h1,h2⟩
   cases e with
   | normal=>exact bW (c:=b) h2 h1
   | exit id=>exact⟨S',h1,h2⟩
   | ret=>exact⟨S',h1,h2⟩
 | .cond c a b,S,Q,σ,h,ho=>by
   rw[FN]
   simp only[oe] at h
   cases c with
   | tmp t=>
     simp only at h
     split at h
     · rename_i c hc
       rw[yV,ho.1 t _ hc]
       cases c with
       | true=>exact bW (c:=a) (h.1 rfl) ho
       | false=>exact bW (c:=b) (h.2 rfl) ho
     ·exact h.elim
   | const v=>
     cases v
     case bool c=>
       rw[vu]
       cases c with
       | true=>exact bW (c:=a) (h.1 rfl) ho
       | false=>exact bW (c:=b) (h.2 rfl) ho
     all_goals exact h.elim
 | .block id b,S,Q,σ,h,ho=>by
   rw[D3]
   refine dP (bW (c:=b) h ho) ?_
   rintro e σ' ⟨S',h1,h2⟩
   cases e with
   | normal=>exact⟨S',h1,h2⟩
   | ret=>exact⟨S',h1,h2⟩
   | exit jF=>
     simp only[D9] at h2
     simp only[C0]
     cases hb:Nat.beq jF id with
     | true=>
       have:=ZT hb
       simp only[hb,cond_true] at h2
       rw[if_pos this];exact⟨S',h1,h2⟩
     | false=>
       have:jF≠id:=Nat.ne_of_beq_eq_false hb
       simp only[hb,cond_false] at h2
       rw[if_neg this];exact⟨S',h1,h2⟩
 | .loop b,S,Q,σ,h,ho=>h.h σ ho
 | .exit id,S,Q,σ,h,ho=>by rw[FM];exact⟨S,ho,h⟩
 | .ret,S,Q,σ,h,ho=>by rw[IJ];exact⟨S,ho,h⟩
 | .scope b,S,Q,σ,h,ho=>by rw[D1];exact bW (c:=b) h ho
 | .mh ..,S,Q,σ,h,ho=>h.h σ ho
 | .keys ..,S,Q,σ,h,ho=>h.h σ ho
 | .bad,_,_,_,h,_=>h.elim
theorem Ru {x:V}:aw [x] 0 1=[x]:=rfl
def xw {α:Type}:List (Nat×α)→List (Nat×α)→Prop
 | [],_=>True
 | p::l,m=> (match lk m p.1 with
   | some x=>x=p.2
   | none=>False)∧xw l m
def SS.Sub (S S':SS):Prop:=xw S.T S'.T∧xw S.O S'.O
theorem xw.lk {α:Type}: ∀ {l m:List (Nat×α)},xw l m→ ∀ {n x},lk l n=some x→lk m n=some x
 | [],_,_,n,x,h=>by simp[AM.lk] at h
 | p::l,m,h,n,x,hx=>by
   rw[lq] at hx
   by_cases e:p.1=n
   ·rw[if_pos e] at hx
    injection hx with hx
    have:=h.1
    subst e
    split at this
    ·rename_i y hy;rw[hy,this,hx]
    ·exact this.elim
   ·rw[if_neg e] at hx
    exact xw.lk h.2 hx
theorem SS.Sub.on {S S':SS} (h:S.Sub S') {σ:St} (ho:S'.On σ):S.On σ:=
 ⟨fun t v hv=>ho.1 t v (h.1.lk hv),fun r o hr=>ho.2 r o (h.2.lk hr)⟩
def NX (Q:aN→SS→Prop) (I:Nat→SS→Prop) (k:Nat):aN→SS→Prop
 | .normal,S=> ∃j,j<k∧ ∃S',S'.Sub S∧I j S'
 | .exit id,S=>Q (.exit id) S
 | .ret,S=>Q .ret S
theorem a8.of {b:aM} {Q:aN→SS→Prop} (I:Nat→SS→Prop) (hI: ∀k S,I k S→oe E b S (NX Q I k)) {k:Nat} {S0 S:SS} (hs:S0.Sub S) (h0:I k S0):a8 E b S Q:=by
 refine⟨fun σ ho=> ?_⟩
 refine r8 (fun k σ=> ∃S,S.On σ∧I k S) ?_ k σ ⟨S0,hs.on ho,h0⟩
 rintro k σ ⟨S,hS,hi⟩
 refine dP (bW (hI k S hi) hS) ?_
 rintro e σ' ⟨S',h1,h2⟩
 cases e with
 | normal=>
   obtain⟨j,hj,Li,h3,h4⟩:=h2
   exact⟨j,hj,Li,h3.on h1,h4⟩
 | exit id=>exact⟨S',h1,h2⟩
 | ret=>exact⟨S',h1,h2⟩
theorem cK: ∀ {a:ba} {S:SS} {Q Q':KK},ei E a S Q→(∀v S' r w,Q v S' r w→Q' v S' r w)→ei E a S Q'
 | .done v,_,_,_,h,k=>k _ _ _ _ h
 | .fail,_,_,_,h,_=>h
 | .kq t f,S,Q,Q',h,k=>by
   simp only[ei] at h ⊢
   split
   ·rename_i v hv
    rw[hv] at h
    exact cK h fun _ _ _ _ h=>k _ _ _ _ h
   ·rename_i hv;rw[hv] at h;exact h
 | .bn t f,S,Q,Q',h,k=>by
   simp only[ei] at h ⊢
   split
   ·rename_i v hv
    rw[hv] at h
    exact cK h fun _ _ _ _ h=>k _ _ _ _ h
   ·rename_i hv;rw[hv] at h;exact h
 | .bl t o f,⟨T,O⟩,Q,Q',h,k=>by
   simp only[ei] at h ⊢
   exact cK h fun _ _ _ _ h=>k _ _ _ _ h
 | .pK t f,S,Q,Q',h,k=>by
   simp only[ei] at h ⊢
   exact fun g=>cK (h g) fun _ _ _ _ h=>k _ _ _ _ h
 | .call f au c,S,Q,Q',h,k=>by
   simp only[ei] at h ⊢
   obtain⟨res,h1,h2⟩:=h
   exact⟨res,h1,cK h2 k⟩
 | .bu p c,S,Q,Q',h,k=> ⟨h.1,cK h.2 k⟩
 | .ex α p c,S,Q,Q',h,k=>by
   obtain⟨x,h1,h2⟩:=h
   exact⟨x,h1,cK h2 k⟩
 | .ite b x y,S,Q,Q',h,k=> ⟨fun hb=>cK (h.1 hb) k,fun hb=>cK (h.2 hb) k⟩
 | .Ni a,S,Q,Q',h,k=> ⟨fun σ ho=>mi (h.h σ ho) fun v σ' r w ⟨S',h1,h2⟩=> ⟨S',h1,k _ _ _ _ h2⟩⟩
 | .alt x y,S,Q,Q',h,k=>by
   rcases h with h| h
   ·exact .inl (cK h k)
   ·exact .inr (cK h k)
 | .all f,S,Q,Q',h,k=>fun n=>cK (h n) k
theorem rk: ∀ {os:List bC} {S:SS} {Q Q':SS→Prop},D7 E os S Q→(∀S',Q S'→Q' S')→D7 E os S Q'
 | [],_,_,_,h,k=>k _ h
 | o::os,_,_,_,h,k=>cK h fun _ ⟨T,O⟩ _ _ h=>by
   cases hd:o.dst with
   | none=>simp only[hd] at h ⊢;exact rk h k
   | some d=>simp only[hd] at h ⊢;exact rk h k
theorem rn: ∀ {os:List bC} {S:SS} {Q Q':List dn→SS→Prop},D8 E os S Q→(∀fs S',Q fs S'→Q' fs S')→D8 E os S Q'
 | [],_,_,_,h,k=>k _ _ h
 | o::os,_,_,_,h,k=>cK h fun _ ⟨T,O⟩ _ _ h=>by
   cases hd:o.dst with
   | none=>simp only[hd] at h ⊢;exact rn h fun _ _ h=>k _ _ h
   | some d=>simp only[hd] at h ⊢;exact rn h fun _ _ h=>k _ _ h
theorem fE: ∀ {c:aM} {S:SS} {Q Q':aN→SS→Prop},oe E c S Q→(∀e S',Q e S'→Q' e S')→oe E c S Q'
 | .skip,_,_,_,h,k=>k _ _ h
 | .region _,_,_,_,h,k=>rk h fun _ h=>k _ _ h
 | .drawn _,_,_,_,h,k=>rn h fun _ _ h=> ⟨h.1,k _ _ h.2⟩
 | .seq a b,_,Q,Q',h,k=>fE (c:=a) h fun e S' h'=>by
   cases e with
   | normal=>exact fE (c:=b) h' k
   | exit id=>exact k _ _ h'
   | ret=>exact k _ _ h'
 | .cond c a b,S,Q,Q',h,k=>by
   simp only[oe] at h ⊢
   cases c with
   | tmp t=>
     simp only at h ⊢
     split at h
     ·exact⟨fun hb=>fE (c:=a) (h.1 hb) k,fun hb=>fE (c:=b) (h.2 hb) k⟩
     ·exact h.elim
   | const v=>
     cases v
     case bool c=>exact⟨fun hb=>fE (c:=a) (h.1 hb) k,fun hb=>fE (c:=b) (h.2 hb) k⟩
     all_goals exact h.elim
 | .block id b,_,Q,Q',h,k=>fE (c:=b) h fun e S' h'=>by
   cases e with
   | normal=>exact k _ _ h'
   | ret=>exact k _ _ h'
   | exit jF=>
     simp only[D9] at h' ⊢
     cases hb:Nat.beq jF id with
     | true=>simp only[hb,cond_true] at h' ⊢;exact k _ _ h'
     | false=>simp only[hb,cond_false] at h' ⊢;exact k _ _ h'
 | .loop b,_,_,_,h,k=> ⟨fun σ ho=>dP (h.h σ ho) fun e σ' ⟨S',h1,h2⟩=> ⟨S',h1,k _ _ h2⟩⟩
 | .exit _,_,_,_,h,k=>k _ _ h
 | .ret,_,_,_,h,k=>k _ _ h
 | .scope b,_,_,_,h,k=>fE (c:=b) h k
 | .mh ..,_,_,_,h,k=> ⟨fun σ ho=>dP (h.h σ ho) fun e σ' ⟨S',h1,h2⟩=> ⟨S',h1,k _ _ h2⟩⟩
 | .keys ..,_,_,_,h,k=> ⟨fun σ ho=>dP (h.h σ ho) fun e σ' ⟨S',h1,h2⟩=> ⟨S',h1,k _ _ h2⟩⟩
 | .bad,_,_,_,h,_=>h
inductive bo {α:Type} (Sh:α→SS) (P:α→Prop) (μ:α→Nat) (a:α) (S:SS):Prop
 | mk (a':α) (h1:μ a'<μ a) (h2:P a') (h3: (Sh a').Sub S)
def FY {α:Type} (Q:aN→SS→Prop) (Sh:α→SS) (P:α→Prop) (μ:α→Nat) (a:α):aN→SS→Prop
 | .normal,S=>bo Sh P μ a S
 | .exit id,S=>Q (.exit id) S
 | .ret,S=>Q .ret S
theorem a8.by {α:Type} {b:aM} {Q:aN→SS→Prop} {S:SS} (Sh:α→SS) (P:α→Prop) (μ:α→Nat) (a0:α) (hs: (Sh a0).Sub S) (h0:P a0)
   (step: ∀a,P a→oe E b (Sh a) (FY Q Sh P μ a)):a8 E b S Q:=by
 refine a8.of (fun k S=> ∃a,k=μ a∧P a∧S=Sh a) ?_ hs ⟨a0,rfl,h0,rfl⟩
 rintro k S ⟨a,rfl,hp,rfl⟩
 refine fE (step a hp) fun e S' h=> ?_
 cases e with
 | normal=>
   obtain⟨a',h1,h2,h3⟩:=h
   exact⟨_,h1,_,h3,a',rfl,h2,rfl⟩
 | exit id=>exact h
 | ret=>exact h
theorem a8.Lj {b:aM} {Q:aN→SS→Prop} {S:SS} (h:a8 E b S fun e S'=> ∃S0,S0.Sub S'∧Q e S0):a8 E b S Q:=by
 refine⟨fun σ ho=>dP (h.h σ ho) ?_⟩
 rintro e σ' ⟨S',h1,S0,h2,h3⟩
 exact⟨S0,h2.on h1,h3⟩
def NY (K:SS→Prop):aN→SS→Prop
 | .normal,S=>K S
 | _,_=>False
def vW (S:SS):List Nat→List V→SS
 | p::ps,x::xs=>vW (S.put (some p) x) ps xs
 | _,_=>S
theorem y5: ∀ {ps:List Nat} {x:List V} {S:SS} {T:Nat→V} {O:Nat→Obj},S.On ⟨T,O⟩→(vW S ps x).On ⟨my T ps x,O⟩
 | [],x,S,T,O,h=>by simpa [vW,my] using h
 | p::ps,[],S,T,O,h=>by simpa [vW,my] using h
 | p::ps,x::xs,S,T,O,h=>y5 (ps:=ps) (x:=xs) (h.put (some p) x)
inductive y6 {α:Type} (Oh:α→List (Nat×Obj)) (P:α→Prop) (O:List (Nat×Obj)):Prop
 | mk (a:α) (h1:P a) (h2:xw (Oh a) O)
def Rv {α:Type} (Q:aN→SS→Prop) (T:List (Nat×V)) (Oh:α→List (Nat×Obj)) (P:α→Prop):aN→SS→Prop
 | .normal,S=>y6 Oh P S.O
 | .exit id,S=>Q (.exit id) ⟨T,S.O⟩
 | .ret,S=>Q .ret ⟨T,S.O⟩
theorem rj.by {α:Type} {fx:aD} {ps:List Nat} {ac b:aM} {S:SS} {Q:aN→SS→Prop} {g:Nat} {caps:List V} (xs:List (List V)) (hf:match fx with| .tmp t=>lk S.T t=some (.fn g caps) | .const v=>v= .fn g caps) (hi:E.iter g caps=some xs) (hl: ∀x ∈ xs,x.length=ps.length)
  (Oh:α→List (Nat×Obj)) (P:Nat→α→Prop) (a0:α) (h0:xw (Oh a0) S.O) (hp:P 0 a0)
  (step: ∀ (k:Nat) x a,xs[k]? =some x→P k a→oe E ac (vW ⟨S.T,Oh a⟩ ps x) (NY fun S1=>oe E b S1 (Rv Q S.T Oh (P (k+1)))))
  (fin: ∀a,P xs.length a→Q .normal ⟨S.T,Oh a⟩):rj E fx ps ac b S Q:=by
 refine⟨fun σ ho=> ?_⟩
 have NZ: ∀ {l:List (Nat×Obj)} {σ:St} {m:List (Nat×Obj)},xw l m→(∀r o,lk m r=some o→σ.O r=o)→ ∀r o,lk l r=some o→σ.O r=o:=fun {l σ m} hs hm=>by
  have h2: (⟨[],m⟩:SS).On σ:=⟨fun t v h=>by simp[lk] at h,hm⟩
  exact(SS.Sub.on (S:=⟨[],l⟩) (S':=⟨[],m⟩) ⟨trivial,hs⟩ h2).2
 have run: ∀ (rest:List (List V)) (k:Nat) (a:α) (O:Nat→Obj),xs.drop k=rest→P k a→(∀r o,lk (Oh a) r=some o→O r=o)→k≤xs.length→ ∃n e σ',pY (exec E n) ps ac b σ.T rest O=some (e,σ')∧ ∃S',S'.On σ'∧Q e S':=by
  intro rest
  induction rest with
  | nil=>
    intro k a O hd Kh hO Ki
    have hk:xs.length≤k:=by
      have:=congrArg List.length hd
      simp at this;omega
    have:k=xs.length:=Zl
    subst this
    exact⟨0,.normal,⟨σ.T,O⟩,rfl,⟨S.T,Oh a⟩,⟨ho.1,hO⟩,fin a Kh⟩
  | cons x rest ih=>
    intro k a O hd Kh hO Ki
    have hk:k<xs.length:=by
      rcases Nat.lt_or_ge k xs.length with h| h
      ·exact h
      ·rw[aaO h] at hd;simp at hd
    rw[ZP hk] at hd
    injection hd with hx hd
    have y7:xs[k]? =some x:=by rw[Zv hk,hx]
    obtain⟨n1,e1,σ1,h1,S1,h2,h3⟩:=bW (step k x a y7 Kh) (y5 (x:=x) (ps:=ps) (S:=⟨S.T,Oh a⟩) (T:=σ.T) (O:=O) ⟨ho.1,hO⟩)
    cases e1 with
    | exit id=>exact h3.elim
    | ret=>exact h3.elim
    | normal=>
      obtain⟨n2,e2,σ2,k1,S2,k2,k3⟩:=bW h3 h2
      cases e2 with
      | normal=>
        obtain⟨a',q1,q2⟩:=k3
        obtain⟨n3,e,σ',l1,l2⟩:=ih (k+1) a' σ2.O hd q1 (NZ (σ:=σ2) q2 k2.2) Zl
        refine⟨max n1 (max n2 n3),e,σ',?_,l2⟩
        have m1:=bV (E:=E) (ZX n1 (max n2 n3)) _ _ _ h1
        have m2:=bV (E:=E) (Z1 (ZX n2 n3) (ZO n1 _)) _ _ _ k1
        have m3:=qZ (fun c σ x h=>bV (E:=E) (Z1 (ZO n2 n3) (ZO n1 _)) c σ x h) l1
        simp only[pY,m1,m2,m3]
      | exit id=>
        refine⟨max n1 n2,.exit id,⟨σ.T,σ2.O⟩,?_,⟨S.T,S2.O⟩,⟨ho.1,k2.2⟩,k3⟩
        have m1:=bV (E:=E) (ZX n1 n2) _ _ _ h1
        have m2:=bV (E:=E) (ZO n1 n2) _ _ _ k1
        simp only[pY,m1,m2]
      | ret=>
        refine⟨max n1 n2,.ret,⟨σ.T,σ2.O⟩,?_,⟨S.T,S2.O⟩,⟨ho.1,k2.2⟩,k3⟩
        have m1:=bV (E:=E) (ZX n1 n2) _ _ _ h1
        have m2:=bV (E:=E) (ZO n1 n2) _ _ _ k1
        simp only[pY,m1,m2]
 obtain⟨n,e,σ',h1,h2⟩:=run xs 0 a0 σ.O Zm hp (NZ (σ:=σ) h0 ho.2) (aaj _)
 refine⟨n+1,e,σ',?_,h2⟩
 have IV:aT σ fx= .fn g caps:=by
  cases fx with
  | tmp t=>exact ho.1 t _ hf
  | const v=>exact hf
 have kb:xs.all (fun x=>Nat.beq x.length ps.length)=true:=by
  rw[Zx];intro x hx;rw[aap];exact hl x hx
 simp only[exec,ar,IV,hi,kb,if_true,h1]
def FZ (K:SS→Prop):aN→SS→Prop
 | .normal,S=>K S
 | _,_=>False
def N0 (id:Nat) (K:SS→Prop):aN→SS→Prop
 | .exit jF,S=>oS (jF=id) (K S)
 | _,_=>False
theorem Bu {α:Type}: ∀ {l:List (Nat×α)} {n:Nat} {v:α},lk l n=some v→(n,v) ∈ l
 | [],n,v,h=>by simp[lk] at h
 | (k,u)::l,n,v,h=>by
   rw[lq] at h
   split at h
   · rename_i e
     simp only at e
     subst e
     injection h with h;subst h;simp
   ·exact aaY _ (Bu h)
theorem FX.by {it nx ne id:Nat} {kT kO:List Nat} {h0 b l:aM} {Q:aN→SS→Prop} {S:SS} {r g:Nat} {arr:Bool} {es:List V} (Sh:List V→SS) (Sf:SS)
   (hT:lk S.T it=some (.it r g)) (hO:lk S.O r=some ⟨g,0,arr,false,some [.mlit es]⟩) (N3: (Sh []).Sub ⟨S.T,(r,⟨g,0,false,false,none⟩)::S.O⟩)
   (rp: ∀d,lk (Sh d).T it=some (.it r g)) (hg: ∀d,∃o,lk (Sh d).O r=some o∧o.gen=g) (aZ: ∀e ∈ es,∃k v,e= .tuple [k,v])
   (step: ∀d k v rest,(d++ .tuple [k,v]::rest).Perm es→oe E h0 (SS.put (Sh d) (some nx) (.tuple [.bool true,k,v])) (FZ fun S1=> (lk S1.T it=some (.it r g)∧ ∃o,lk S1.O r=some o∧o.gen=g)∧oe E b (SS.put S1 (some ne) (.tuple [k,v])) (FZ fun S'=> (Sh (d++[.tuple [k,v]])).Sub S')))
   (last: ∀d,d.Perm es→oe E h0 (SS.put (Sh d) (some nx) (.tuple [.bool false])) (N0 id fun S'=>oe E l S' (FZ fun Li=>Sf.Sub Li)))
   (Kj:kT.all (fun t=> (lk Sf.T t).isSome)=true) (Kk:kO.all (fun t=> (lk Sf.O t).isSome)=true) (fT:Sf.T.all (fun p=>kT.contains p.1)=true) (fO:Sf.O.all (fun p=>kO.contains p.1)=true)
   (hQ:Q .normal Sf):FX E it nx ne id kT kO h0 b l S Q:=by
 refine⟨fun σ ho=> ?_⟩
 have Rw: (Sh []).On ⟨σ.T,cC σ.O r ⟨g,0,false,false,none⟩⟩:=by
   refine N3.on ⟨fun t v hv=>ho.1 t v hv,fun x o hx=> ?_⟩
   rw[lq] at hx
   show cC σ.O r _ x=o
   unfold cC
   by_cases e:r=x
   ·simp only[e,if_true,Zr] at hx ⊢;exact hx
   ·rw[if_neg e] at hx;rw[if_neg (Ne.symm e)];exact ho.2 x o hx
 have Kl: ∀d (τ:St),(Sh d).On τ→te it r g τ=true:=fun d τ hτ=>by
   obtain⟨o,h1,h2⟩:=hg d
   unfold te
   rw[hτ.1 _ _ (rp d),hτ.2 _ _ h1]
   simp[h2]
 have run: ∀ (rest d:List V) (τ:St),(d++rest).Perm es→(Sh d).On τ→ ∃n σp,runK (exec E n) it r g nx ne id h0 b l rest τ=some σp∧Sf.On σp:=by
   intro rest
   induction rest with
   | nil=>
     intro d τ hp hτ
     obtain⟨n1,e,τ1,h1,S1,h2,h3⟩:=bW (last d (by simpa using hp)) (hτ.put (some nx) (.tuple [.bool false]))
     cases e with
     | normal=>exact h3.elim
     | ret=>exact h3.elim
     | exit jF=>
       obtain⟨rfl,h3⟩:=h3
       obtain⟨n2,e2,τ2,k1,S2,k2,k3⟩:=bW h3 h2
       cases e2 with
       | exit jF=>exact k3.elim
       | ret=>exact k3.elim
       | normal=>
         refine⟨max n1 n2,τ2,?_,SS.Sub.on k3 k2⟩
         have m1:=bV (E:=E) (ZX n1 n2) _ _ _ h1
         have m2:=bV (E:=E) (ZO n1 n2) _ _ _ k1
         simp only[runK,Kl d τ hτ,if_true,m1,m2]
   | cons x rest ih=>
     intro d τ hp hτ
     obtain⟨k,v,rfl⟩:=aZ x (hp.mem_iff.1 Zm)
     obtain⟨n1,e,τ1,h1,S1,h2,h3⟩:=bW (step d k v rest hp) (hτ.put (some nx) (.tuple [.bool true,k,v]))
     cases e with
     | exit jF=>exact h3.elim
     | ret=>exact h3.elim
     | normal=>
       obtain⟨⟨t1,o1,t2,t3⟩,h3⟩:=h3
       have Rx:te it r g τ1=true:=by
         unfold te
         rw[h2.1 _ _ t1,h2.2 _ _ t2]
         simp[t3]
       obtain⟨n3,e3,τ3,l1,S3,l2,l3⟩:=bW h3 (h2.put (some ne) (.tuple [k,v]))
       cases e3 with
       | exit jF=>exact l3.elim
       | ret=>exact l3.elim
       | normal=>
         obtain⟨n2,σp,k1,k2⟩:=ih (d++[.tuple [k,v]]) τ3 (by simpa using hp) (SS.Sub.on l3 l2)
         refine⟨max n1 (max n3 n2),σp,?_,k2⟩
         have m1:=bV (E:=E) (ZX n1 (max n3 n2)) _ _ _ h1
         have m3:=bV (E:=E) (Z1 (ZX n3 n2) (ZO n1 _)) _ _ _ l1
         have m2:=nq (fun c σ x h=>bV (E:=E) (Z1 (ZO n3 n2) (ZO n1 _)) c σ x h) k1
         simp only[runK,Kl d τ hτ,Rx,if_true,m1,m3,m2]
 obtain⟨n,ys,h1,h2,h3⟩:=ug (f:=fun n p=>runK (exec E n) it r g nx ne id h0 b l p ⟨σ.T,cC σ.O r ⟨g,0,false,false,none⟩⟩) (P:=fun σp=>Sf.On σp)
   (fun n m p y N4 h=>nq (fun c σ x h=>bV (E:=E) N4 c σ x h) h) (l:=perms es) fun p hp=>run p [] _ (by simpa using sb hp) Rw
 have bQ:perms es≠[]:=fun e=>by have:=mz (List.Perm.refl es);rw[e] at this;simp at this
 match ys,h2,h3,h1 with
 | [],h2,_,_=>exact absurd (Z3.1 h2.symm) bQ
 | σ1::σs,_,h3,h1=>
   have Wc:σ.T it= .it r g:=ho.1 _ _ hT
   have Wd:=ho.2 _ _ hO
   have Km:σs.all (agree kT kO σ1)=true:=by
     rw[Zx]
     intro τ hτ
     have o1:=h3 σ1 Zm
     have o2:=h3 τ (by simp[hτ])
     simp only[agree,Zt,Zx] at Kj Kk ⊢
     refine⟨fun t ht=> ?_,fun x hx=> ?_⟩
     · obtain⟨v,hv⟩:=ZA.1 (Kj t ht)
       rw[o1.1 t v hv,o2.1 t v hv];exact V.jk v
     · obtain⟨v,hv⟩:=ZA.1 (Kk x hx)
       rw[o1.2 x v hv,o2.2 x v hv];exact Obj.jk v
   refine⟨n+1,.normal,forget kT kO σ1 σs,?_,Sf,?_,hQ⟩
   ·simp only[exec,ar,Wc,Wd,and_self,if_true,h1,Km]
   · have o1:=h3 σ1 Zm
     refine⟨fun t v hv=> ?_,fun x o hx=> ?_⟩
     · have:=Zx.1 fT _ (Bu hv)
       simp only[forget,this,if_true]
       exact o1.1 t v hv
     · have:=Zx.1 fO _ (Bu hx)
       simp only[forget,this,if_true]
       exact o1.2 x o hx
theorem Kn (i:Nat) (h:i< 4611686018427387904):V.int .i64 (IntKind.i64.wrap ((i:Int)+1))=V.int .i64 ((i+1:Nat):Int):=by
 rw[wrap64 Zl Zl];rfl
def Bv ( S:SS):List pI→(List V→Prop)→Prop
 | [],k=>k []
 | .tmp t::rs,k=> (match lk S.T t with
   | some v=>Bv S rs fun vs=>k (v::vs)
   | none=>False)
 | .cell t agg sz::rs,k=> (match lk S.T t with
   | some (.ptr r g idx off)=> (match lk S.O r with
     | some ⟨bD,_,_,_,eY⟩=> (match eY with
       | some [e]=> (match idx with
         | 0=>oS (bD=g) (match tP agg off sz e with
           | some v=>Bv S rs fun vs=>k (v::vs)
           | none=>False)
         | _+1=>False)
       | _=>False)
     | none=>False)
   | _=>False)
theorem oX {S:SS} {σ:St} (ho:S.On σ): ∀ {rs:List pI} {k:List V→Prop},Bv S rs k→ ∃vs,dX σ rs=some vs∧k vs
 | [],k,h=> ⟨[],rfl,h⟩
 | .tmp t::rs,k,h=>by
   simp only[Bv] at h
   split at h
   ·rename_i v hv
    obtain⟨vs,h1,h2⟩:=oX ho h
    exact⟨v::vs,by simp[dX,kz,h1,ho.1 t v hv],h2⟩
   ·exact h.elim
 | .cell t agg sz::rs,k,h=>by
   simp only[Bv] at h
   split at h
   ·rename_i r g idx off hv
    split at h
    ·rename_i bD ec cr fA eY hr
     split at h
     ·rename_i e
      split at h
      ·obtain⟨hg,h⟩:=h
       split at h
       ·rename_i v hp
        obtain⟨vs,h1,h2⟩:=oX ho h
        refine⟨v::vs,?_,h2⟩
        simp[dX,kz,h1,ho.1 t _ hv,ho.2 r _ hr,hg,ky hp]
       ·exact h.elim
      ·exact h.elim
     ·exact h.elim
    ·exact h.elim
   ·exact h.elim
def se (S:SS):Nat→List V→(List (Nat×List V)→Prop)→Prop
 | _,[],k=>k []
 | i,.msl sz _ _ _::au,k| i,.mptr sz _ _ _::au,k=> (match lk S.O i with
   | some ⟨bD,ec,_,fA,eY⟩=> (match eY with
     | some es=>oS (fA=false∧ec=sz∧V.al es=true) (se S (i+1) au fun outs=>k ((bD,es)::outs))
     | none=>False)
   | none=>False)
 | i,_::au,k=>se S (i+1) au k
theorem jO {S:SS} {σ:St} (ho:S.On σ): ∀ {au:List V} {i:Nat} {k:List (Nat×List V)→Prop},se S i au k→ ∃outs,bS σ.O i au=some outs∧k outs
 | [],i,k,h=> ⟨[],by simp[bS],by simpa [se] using h⟩
 | a::au,i,k,h=>by
   cases a
   case msl sz es' off len=>
    simp only[se] at h
    split at h
    ·rename_i bD ec cr fA eY hr
     split at h
     ·   rename_i es
         obtain⟨hc,h⟩:=h
         obtain⟨outs,h1,h2⟩:=jO ho h
         refine⟨_,?_,h2⟩
         simp[bS,ho.2 i _ hr,h1,hc]
     ·exact h.elim
    ·exact h.elim
   case mptr sz es' off len=>
    simp only[se] at h
    split at h
    ·rename_i bD ec cr fA eY hr
     split at h
     ·   rename_i es
         obtain⟨hc,h⟩:=h
         obtain⟨outs,h1,h2⟩:=jO ho h
         refine⟨_,?_,h2⟩
         simp[bS,ho.2 i _ hr,h1,hc]
     ·exact h.elim
    ·exact h.elim
   all_goals
    simp only[se] at h
    obtain⟨outs,h1,h2⟩:=jO ho h
    exact⟨outs,by simp[bS,h1],h2⟩
def pZ ( n:Nat) (S:SS) (c:V) (k:V→List Nat→Prop):Prop:=
 match c with
 | .sl r g off len=> (match lk S.O r with
   | some ⟨bD,ec,cr,fA,eY⟩=> (match eY with
     | some es=>oS (bD=g∧cr=true) (eW (fun ys=>aw es off len=ys) fun ys=>oS (off+len≤es.length∧V.al ys=true)
        (bif Nat.blt r n then k (.sl r g off len) [r] else bif fA then k (.lit ec ys) [] else k (.own ec ys) [r]))
     | none=>False)
   | none=>False)
 | c=>oS (V.aq c=true) (k c [])
theorem mA {n:Nat} {S:SS} {σ:St} (ho:S.On σ) {c:V} {k:V→List Nat→Prop} (h:pZ n S c k): ∃v rs,bT n σ c=some (v,rs)∧k v rs:=by
 unfold pZ at h
 split at h
 ·rename_i r g off len
  split at h
  ·rename_i bD ec cr fA eY hr
   split at h
   ·rename_i es
    obtain⟨⟨h1,h2⟩,ys,rfl,⟨h3,h4⟩,h⟩:=h
    have e1:=ho.2 r _ hr
    simp only[bT,e1,h1,h2,h3,h4,and_self,if_true]
    cases hb:Nat.blt r n with
    | true=>
      have:r<n:=by simpa [Nat.blt_eq] using hb
      simp only[hb,cond_true] at h
      rw[if_pos this];exact⟨_,_,rfl,h⟩
    | false=>
      have: ¬r<n:=by intro hc;rw[←Nat.blt_eq,hb] at hc;simp at hc
      simp only[hb,cond_false] at h
      rw[if_neg this]
      cases hz:fA with
      | true=>simp only[hz,cond_true] at h;exact⟨_,_,by simp[e1,hz],h⟩
      | false=>simp only[hz,cond_false] at h;exact⟨_,_,by simp[e1,hz],h⟩
   ·exact h.elim
  ·exact h.elim
 ·rename_i hn
  refine⟨c,[],?_,h.rest⟩
  have h:=h.side
  unfold bT
  cases c
  case sl=>exact absurd rfl (hn _ _ _ _)
  all_goals simp_all
def nu (n:Nat) (S:SS):List V→(List V→List Nat→Prop)→Prop
 | [],k=>k [] []
 | c::cs,k=>pZ n S c fun c' r=>nu n S cs fun b6 rs=>k (c'::b6) (r++rs)
theorem ik {n:Nat} {S:SS} {σ:St} (ho:S.On σ): ∀ {cs:List V} {k:List V→List Nat→Prop},nu n S cs k→ ∃v rs,bK n σ cs=some (v,rs)∧k v rs
 | [],_,h=> ⟨[],[],rfl,h⟩
 | c::cs,k,h=>by
   obtain⟨v,r,h1,h2⟩:=mA ho h
   obtain⟨vs,rs,h3,h4⟩:=ik ho h2
   exact⟨_,_,by simp[bK,h1,h3],h4⟩
def F1 (n:Nat) (S:SS) (v:V) (k:V→List Nat→Prop):Prop:=
 bif V.aq v then k v [] else
 match v with
 | .agg cs=>nu n S cs fun b6 rs=>k (.agg b6) rs
 | .fn f cs=>nu n S cs fun b6 rs=>oS (V.al b6=true) (k (.fn f b6) rs)
 | v=>pZ n S v k
theorem y8 {n:Nat} {S:SS} {σ:St} (ho:S.On σ) {v:V} {k:V→List Nat→Prop} (h:F1 n S v k): ∃v' rs,dg n σ v=some (v',rs)∧k v' rs:=by
 unfold F1 at h
 unfold dg
 cases hp:V.aq v with
 | true=>simp only[hp,cond_true] at h;exact⟨v,[],Zm,h⟩
 | false=>
   simp only[hp,cond_false] at h
   simp only[ZB,if_false]
   split at h
   ·obtain⟨b6,rs,h1,h2⟩:=ik ho h
    exact⟨_,_,by simp[h1],h2⟩
   ·obtain⟨b6,rs,h1,h2,h3⟩:=ik ho h
    exact⟨_,_,by simp[h1,h2],h3⟩
   ·obtain⟨v',rs,h1,h2⟩:=mA ho h
    exact⟨v',rs,by cases v<;>simp_all,h2⟩
def Bw (n:Nat) (S:SS):List V→(List V→List Nat→Prop)→Prop
 | [],k=>k [] []
 | c::cs,k=>F1 n S c fun c' r=>Bw n S cs fun b6 rs=>k (c'::b6) (r++rs)
theorem p8 {n:Nat} {S:SS} {σ:St} (ho:S.On σ): ∀ {cs:List V} {k:List V→List Nat→Prop},Bw n S cs k→ ∃v rs,cF n σ cs=some (v,rs)∧k v rs
 | [],_,h=> ⟨[],[],rfl,h⟩
 | c::cs,k,h=>by
   obtain⟨v,r,h1,h2⟩:=y8 ho h
   obtain⟨vs,rs,h3,h4⟩:=p8 ho h2
   exact⟨_,_,by simp[cF,h1,h3],h4⟩
def rq (rs:List pI) (args:List V) (S:SS) (R:eV→Prop):Prop:=
 Bv S rs fun vs=>se S 0 args fun outs=>Bw args.length S vs fun vs' refs=>oS (distinct refs=true) (match vs' with
  | [v]=>R ⟨v,outs⟩
  | vs'=>R ⟨.tuple vs',outs⟩)
def vy (rs:List pI) (args:List V) (R:eV→Prop):aN→SS→Prop
 | .exit _,_=>False
 | .normal,S=>rq rs args S R
 | .ret,S=>rq rs args S R
theorem xx {rs:List pI} {args:List V} {S:SS} {R:eV→Prop} {σ:St} (ho:S.On σ) (h:rq rs args S R): ∃res,leave ⟨0,0,[],rs,.skip,none⟩ args σ=some res∧R res:=by
 obtain⟨vs,h1,h⟩:=oX ho h
 obtain⟨outs,h2,h⟩:=jO ho h
 obtain⟨vs',refs,h3,h4,h⟩:=p8 ho h
 simp only[leave,h1,h2,h3]
 split at h
 ·rename_i v
  exact⟨_,by simp[h4],h⟩
 ·rename_i hn
  refine⟨⟨.tuple vs',outs⟩,?_,h⟩
  split
  ·rename_i v rs' heq
   injection heq with e1;injection e1 with e1 e2
   exact absurd e1 (by intro hh;exact hn v hh)
  ·rename_i We YJ heq
   injection heq with e1;injection e1 with e1 e2
   subst e1 e2
   simp[h4]
  ·rename_i heq;simp at heq
def kc:Nat→List V→List (Nat×V)
 | _,[]=> []
 | i,.msl _ _ off len::au=> (i,.sl i 0 off len)::kc (i+1) au
 | i,.mptr _ _ idx off::au=> (i,.ptr i 0 idx off)::kc (i+1) au
 | i,v::au=> (i,v)::kc (i+1) au
def ke:Nat→List V→List (Nat×Obj)
 | _,[]=> []
 | i,.msl sz es _ _::au=> (i,{gen:=0,sz,arr:=true,fz:=false,es:=some es})::ke (i+1) au
 | i,.mptr sz es _ _::au=> (i,{gen:=0,sz,arr:=false,fz:=false,es:=some es})::ke (i+1) au
 | i,_::au=>ke (i+1) au
def xy (args:List V):SS:=⟨kc 0 args,ke 0 args⟩
theorem vX: ∀ (au pre:List V) (t:Nat) (v:V),lk (kc pre.length au) t=some v→(enter (pre++au)).T t=v
 | [],_,_,_,h=>by simp[kc,lk] at h
 | a::au,pre,t,v,h=>by
   have ih:=vX au (pre++[a]) t v
   simp only[List.length_append,ZH,ZL,aaa,aaW,List.singleton_append] at ih
   have key: ∀x,lk ((pre.length,x)::kc (pre.length+1) au) t=some v→(enter (pre++a::au)).T pre.length=x→(enter (pre++a::au)).T t=v:=by
    intro x hx hv
    rw[lq] at hx
    by_cases e:pre.length=t
    ·simp only[e,if_true,Zr] at hx;rw[←hx,←hv,e]
    ·simp only[e,if_false] at hx;exact ih hx
   have hg: (pre++a::au)[pre.length]? =some a:=Zm
   cases a
   case msl=>exact key _ (by simpa [kc] using h) (by simp[enter,hg])
   case mptr=>exact key _ (by simpa [kc] using h) (by simp[enter,hg])
   all_goals exact key _ (by simpa [kc] using h) (by simp[enter,hg])
theorem vY: ∀ (au pre:List V) (t:Nat) (v:Obj),lk (ke pre.length au) t=some v→(enter (pre++au)).O t=v
 | [],_,_,_,h=>by simp[ke,lk] at h
 | a::au,pre,t,v,h=>by
   have ih:=vY au (pre++[a]) t v
   simp only[List.length_append,ZH,ZL,aaa,aaW,List.singleton_append] at ih
   have key: ∀x,lk ((pre.length,x)::ke (pre.length+1) au) t=some v→(enter (pre++a::au)).O pre.length=x→(enter (pre++a::au)).O t=v:=by
    intro x hx hv
    rw[lq] at hx
    by_cases e:pre.length=t
    ·simp only[e,if_true,Zr] at hx;rw[←hx,←hv,e]
    ·simp only[e,if_false] at hx;exact ih hx
   have hg: (pre++a::au)[pre.length]? =some a:=Zm
   cases a
   case msl=>exact key _ (by simpa [ke] using h) (by simp[enter,hg])
   case mptr=>exact key _ (by simpa [ke] using h) (by simp[enter,hg])
   all_goals exact ih (by simpa [ke] using h)
theorem Ea (args:List V): (xy args).On (enter args):=
 ⟨fun t v h=>vX args [] t v h,fun r o h=>vY args [] r o h⟩
theorem Ev.eQ {f:Nat} {af:bF} {args:List V} {R:eV→Prop} (hf:E.fn f=some af) (hx:E.ext f args=none) (hl:args.length=af.nparams)
  (h:oe E af.body (xy args) (vy af.results args R)) (ht:af.tag=none:=by rfl) (hh:E.hyb f=none:=by rfl): ∃res,Ev E f args res∧R res:=by
 obtain⟨n,e,σ',h1,S',h2,h3⟩:=bW h (Ea args)
 have key: ∀ {e},exec E n af.body (enter args)=some (e,σ')→(e= .normal∨e= .ret)→rq af.results args S' R→ ∃res,Ev E f args res∧R res:=by
  intro e h1 he N5
  obtain⟨res,h4,h5⟩:=xx h2 N5
  refine⟨res,⟨n,?_⟩,h5⟩
  unfold call cX
  rw[hh];simp only[lh]
  rw[hx];simp only[hf,hl,if_true,ht,h1]
  rcases he with rfl| rfl<;>exact h4
 cases e with
 | normal=>exact key h1 (.inl rfl) h3
 | ret=>exact key h1 (.inr rfl) h3
 | exit id=>exact h3.elim
theorem Ev.aO {f:Nat} {af:bF} {args:List V} {res:eV} (hf:E.fn f=some af) (hx:E.ext f args=none) (hl:args.length=af.nparams)
  (h:oe E af.body (xy args) (vy af.results args (· =res))) (ht:af.tag=none:=by rfl) (hh:E.hyb f=none:=by rfl):Ev E f args res:=by
 obtain⟨r,h1,rfl⟩:=Ev.eQ hf hx hl h ht hh
 exact h1
end
end Go.AM
namespace Go.AM
inductive Ry {α:Type} (Sh:α→SS) (P:α→Prop) (S:SS):Prop
 | mk (x:α) (h2:P x) (h3: (Sh x).Sub S)
def Rz {α:Type} (Q:aN→SS→Prop) (Sh:α→SS) (P:α→Prop):aN→SS→Prop
 | .normal,S=>Ry Sh P S
 | .exit id,S=>Q (.exit id) S
 | .ret,S=>Q .ret S
def Eb:Nat→aM→aM
 | 0,_=> .skip
 | n+1,.seq a b=> .seq a (Eb n b)
 | _+1,c=>c
def y9:Nat→aM→aM
 | 0,c=>c
 | n+1,.seq _ b=>y9 n b
 | _+1,_=> .skip
section
variable {E:Env}
def WS (E:Env) (c:aM) (S:SS) (Q:aN→SS→Prop):Prop:= ∀σ,S.On σ→kn E c σ fun e σ'=> ∃S',S'.On σ'∧Q e S'
theorem WS.of {c:aM} {S:SS} {Q:aN→SS→Prop} (h:oe E c S Q):WS E c S Q:=fun _ ho=>bW h ho
theorem vZ: ∀ {n:Nat} {c:aM} {σ:St} {Q:aN→St→Prop},kn E (Eb n c) σ (andThen Q fun σ'=>kn E (y9 n c) σ' Q)→kn E c σ Q
 | 0,c,σ,Q,h=>by
   simp only[Eb] at h
   rw[tM] at h
   exact h
 | n+1,c,σ,Q,h=>by
   have other:Eb (n+1) c=c→y9 (n+1) c= .skip→kn E c σ Q:=fun e1 e2=>by
    rw[e1,e2] at h
    refine dP h ?_
    intro e σ' hq
    cases e with
    | normal=>simp only[andThen] at hq;rw[tM] at hq;exact hq
    | exit id=>exact hq
    | ret=>exact hq
   cases c
   case seq a b=>
    simp only[Eb,y9] at h
    rw[C1] at h ⊢
    refine dP h ?_
    intro e σ' hq
    cases e with
    | normal=>exact vZ (n:=n) hq
    | exit id=>exact hq
    | ret=>exact hq
   all_goals exact other rfl rfl
theorem WS.cut {α:Type} (n:Nat) (Sh:α→SS) (P:α→Prop) {Q:aN→SS→Prop} {c:aM} {S:SS} (h1:oe E (Eb n c) S (Rz Q Sh P)) (h2: ∀x,P x→WS E (y9 n c) (Sh x) Q):WS E c S Q:=fun σ ho=>by
 refine vZ (n:=n) (dP (bW h1 ho) ?_)
 rintro e σ' ⟨S',h3,h4⟩
 cases e with
 | normal=>
   obtain⟨x,h5,h6⟩:=h4
   exact h2 x h5 σ' (h6.on h3)
 | exit id=>exact⟨S',h3,h4⟩
 | ret=>exact⟨S',h3,h4⟩
theorem a8.ws {α:Type} {b:aM} {Q:aN→SS→Prop} {S:SS} (Sh:α→SS) (P:α→Prop) (μ:α→Nat) (a0:α) (hs: (Sh a0).Sub S) (h0:P a0)
   (step: ∀a,P a→WS E b (Sh a) (FY Q Sh P μ a)):a8 E b S Q:=by
 refine⟨fun σ ho=> ?_⟩
 refine r8 (fun k σ=> ∃a,k=μ a∧P a∧(Sh a).On σ) ?_ (μ a0) σ ⟨a0,rfl,h0,hs.on ho⟩
 rintro k σ ⟨a,rfl,hp,hS⟩
 refine dP (step a hp σ hS) ?_
 rintro e σ' ⟨S',h1,h2⟩
 cases e with
 | normal=>
   obtain⟨a',h3,h4,h5⟩:=h2
   exact⟨_,h3,a',rfl,h4,h5.on h1⟩
 | exit id=>exact⟨S',h1,h2⟩
 | ret=>exact⟨S',h1,h2⟩
end
end Go.AM
namespace Go.AM
abbrev za:=List (Nat×List V×eV)
def F3 (tab:za) (C:aQ):aQ:=fun f au=>match tab.find? (fun p=>Nat.beq p.1 f &&V.lA p.2.1 au) with
 | some p=>some p.2.2
 | none=>C f au
def v7 (E:Env) (tab:za):Nat→aM→St→Option (aN×St)
 | 0=>fun _ _=>none
 | n+1=>ar E (F3 tab (cX E (v7 E tab n))) (v7 E tab n)
def zc (E:Env) (tab:za) (n:Nat):aQ:=cX E (v7 E tab n)
theorem zd {E:Env}: ∀tab:za,(∀p ∈ tab,Ev E p.1 p.2.1 p.2.2)→ ∃M,∀p ∈ tab,call E M p.1 p.2.1=some p.2.2
 | [],_=> ⟨0,Zm⟩
 | p::tab,h=>by
   obtain⟨M,hM⟩:=zd tab fun q hq=>h q (by simp[hq])
   obtain⟨m,hm⟩:=h p Zm
   refine⟨max M m,fun q hq=> ?_⟩
   rcases Zz.1 hq with rfl| hq
   ·exact dv (ZO ..) _ _ _ hm
   ·exact dv (ZX ..) _ _ _ (hM q hq)
theorem C7 {E:Env} {tab:za} {M:Nat} (hM: ∀p ∈ tab,call E M p.1 p.2.1=some p.2.2): ∀n,La (v7 E tab n) (exec E (M+n))
 | 0=>by intro c σ x e;simp[v7] at e
 | n+1=>by
   have ih:=C7 hM n
   have hC:FF (F3 tab (cX E (v7 E tab n))) (call E (M+n)):=by
    intro f au r e
    unfold F3 at e
    split at e
    ·rename_i p hp
     injection e with e;subst e
     have h1:=aav hp
     have h2:=Z0 hp
     simp only[Zt,aap] at h1
     have h3:=V.eK h1.2
     rw[←h1.1,←h3]
     exact dv (Nat.le_add_right ..) _ _ _ (hM p h2)
    ·exact gH ih _ _ _ e
   have:=nY (E:=E) hC ih
   intro c σ x e
   exact this _ _ _ e
theorem Ev.IW {E:Env} {tab:za} (h: ∀p ∈ tab,Ev E p.1 p.2.1 p.2.2) {n f:Nat} {au:List V} {r:eV} (e:zc E tab n f au=some r):Ev E f au r:=by
 obtain⟨M,hM⟩:=zd tab h
 exact⟨M+n,gH (C7 hM n) _ _ _ e⟩
end Go.AM
