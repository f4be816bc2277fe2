/- Texts of the proof. -/
import Derived.Test.YtdifmldbllaeiaaGreatDefs
import Derived.Attr
set_option linter.unusedSimpArgs false
set_option linter.unusedVariables false
namespace Go.AM
def QW (C C':bn):Prop:= ∀f aD r,C f aD=some r→C' f aD=some r
theorem Act.jR {C C':bn} (h:QW C C'): ∀ (a:Act) (σ:St) (r:V×St),a.run C σ=some r→a.run C' σ=some r
 | .done v,σ,r,e=>by simpa [Act.run] using e
 | .fail,σ,r,e=>by simp[Act.run] at e
 | .mY t k,σ,r,e=>by simp only[Act.run] at e ⊢;exact Act.jR h _ _ _ e
 | .bP t k,σ,r,e=>by simp only[Act.run] at e ⊢;exact Act.jR h _ _ _ e
 | .bM t o k,σ,r,e=>by simp only[Act.run] at e ⊢;exact Act.jR h _ _ _ e
 | .call f aD k,σ,r,e=>by
   simp only[Act.run] at e ⊢
   split at e
   ·rename_i res iO
    rw[h f aD res iO]
    exact Act.jR h _ _ _ e
   ·simp at e
theorem Act.jn {C C':bn} (h:QW C C'): ∀ (a:Act) (σ:St) (r:V×St),a.run C σ=some r→a.cO C' σ=a.cO C σ
 | .done v,σ,r,e=>by simp[Act.cO]
 | .fail,σ,r,e=>by simp[Act.run] at e
 | .mY t k,σ,r,e=>by simp only[Act.run] at e;simp only[Act.cO];rw[Act.jn h _ _ _ e]
 | .bP t k,σ,r,e=>by simp only[Act.run] at e;simp only[Act.cO];rw[Act.jn h _ _ _ e]
 | .bM t o k,σ,r,e=>by simp only[Act.run] at e;simp only[Act.cO];rw[Act.jn h _ _ _ e]
 | .call f aD k,σ,r,e=>by
   simp only[Act.run] at e
   simp only[Act.cO]
   split at e
   ·rename_i res iO
    rw[h f aD res iO]
    simp only
    exact Act.jn h _ _ _ e
   ·simp at e
theorem xZ {E:Env} {C C':bn} (h:QW C C') {o:bX} {σ σ':St} (e:dK E C o σ=some σ'):dK E C' o σ=some σ':=by
 unfold dK at e ⊢
 split at e
 ·rename_i v σ1 hr
  rw[Act.jR h _ _ _ hr];exact e
 ·simp at e
theorem oZ {E:Env} {C C':bn} (h:QW C C'): ∀ {os:List bX} {σ σ':St},iw E C os σ=some σ'→iw E C' os σ=some σ'
 | [],_,_,e=>by simpa [iw] using e
 | o::os,_,_,e=>by
   simp only[iw] at e ⊢
   split at e
   ·rename_i σ1 h1
    rw[xZ h h1]
    exact oZ h e
   ·simp at e
theorem An {E:Env} {C C':bn} (h:QW C C') {o:bX} {σ σ':St} (e:dK E C o σ=some σ'):cV E C' o σ=cV E C o σ:=by
 unfold dK at e
 split at e
 ·rename_i v σ1 hr
  simp only[cV,Act.jn h _ _ _ hr]
 ·simp at e
theorem mL {E:Env} {C C':bn} (h:QW C C'): ∀ {os:List bX} {b9:List eB} {before:List (List Nat)} {σ σ':St},eo E C os b9 before σ=some σ'→eo E C' os b9 before σ=some σ'
 | [],_,_,_,_,e=>by simpa [eo] using e
 | o::os,b9,before,σ,_,e=>by
   simp only[eo] at e ⊢
   split at e
   ·rename_i hc
    split at e
    ·rename_i σ1 h1
     rw[An h h1,xZ h h1,if_pos hc]
     exact mL h e
    ·simp at e
   ·simp at e
def Xf (r r':aS→St→Option (aP×St)):Prop:= ∀c σ x,r c σ=some x→r' c σ=some x
theorem vT {E:Env} {r r':aS→St→Option (aP×St)} (h:Xf r r'):QW (eZ E r) (eZ E r'):=by
 intro f aD res e
 unfold eZ at e ⊢
 split at e
 ·exact e
 ·split at e
  ·split at e
   ·rename_i hl
    rw[if_pos hl]
    split at e
    ·split at e
     ·rename_i σ hx;rw[h _ _ _ hx];exact e
     ·rename_i σ hx;rw[h _ _ _ hx];exact e
     ·simp at e
    ·split at e
     ·rename_i hp
      rw[if_pos hp]
      split at e
      ·rename_i σ hx;rw[h _ _ _ hx];exact e
      ·rename_i σ hx;rw[h _ _ _ hx];exact e
      ·simp at e
     ·simp at e
   ·simp at e
  ·simp at e
theorem rn {E:Env} {r r':aS→St→Option (aP×St)} (h:Xf r r'):QW (dm E r) (dm E r'):=by
 intro f aD res e
 unfold dm at e ⊢
 split at e
 ·rename_i g hg
  exact E.mono f g hg _ _ (vT h) _ _ e
 ·exact vT h _ _ _ e
theorem Ao {E:Env} {C C':bn} (hC:QW C C') {r r':aS→St→Option (aP×St)} (h:Xf r r'):Xf (aC E C r) (aC E C' r'):=by
 intro c σ x e
 cases c with
 | skip=>simpa [aC] using e
 | region ops=>
   simp only[aC,afZ] at e ⊢
   obtain⟨σ1,h1,h2⟩:=e
   exact⟨σ1,oZ hC h1,h2⟩
 | drawn ops=>
   simp only[aC,afZ] at e ⊢
   obtain⟨σ1,h1,h2⟩:=e
   exact⟨σ1,mL hC h1,h2⟩
 | seq a b=>
   simp only[aC] at e ⊢
   split at e
   ·rename_i σ1 h1;rw[h _ _ _ h1];exact h _ _ _ e
   ·rename_i hn
    rw[h _ _ _ e]
    rcases x with⟨ex,σ1⟩
    cases ex with
    | normal=>exact absurd e (by simpa using hn σ1)
    | _=>rfl
 | cond c a b=>
   simp only[aC] at e ⊢
   split at e
   ·exact h _ _ _ e
   ·exact h _ _ _ e
   ·simp at e
 | block id b=>
   simp only[aC] at e ⊢
   split at e
   ·rename_i lW σ1 h1;rw[h _ _ _ h1];exact e
   ·rename_i hn
    rw[h _ _ _ e]
    rcases x with⟨ex,σ1⟩
    cases ex with
    | exit lW=>exact absurd e (by simpa using hn lW σ1)
    | _=>rfl
 | loop b=>
   simp only[aC] at e ⊢
   split at e
   ·rename_i σ1 h1;rw[h _ _ _ h1];exact h _ _ _ e
   ·rename_i hn
    rw[h _ _ _ e]
    rcases x with⟨ex,σ1⟩
    cases ex with
    | normal=>exact absurd e (by simpa using hn σ1)
    | _=>rfl
 | exit id=>simpa [aC] using e
 | ret=>simpa [aC] using e
 | scope b=>simp only[aC] at e ⊢;exact h _ _ _ e
 | bad=>simp[aC] at e
 | nN fx ps a b=>
   simp only[aC] at e ⊢
   split at e
   ·rename_i g caps hg
    try simp only[hg]
    split at e
    ·rename_i xs I8
     try simp only[I8]
     split at e
     ·rename_i hc
      try rw[if_pos hc]
      exact uT h e
     ·simp at e
    ·simp at e
   ·simp at e
 | keys it nx ne id kT kO hd b l=>
   simp only[aC] at e ⊢
   split at e
   ·rename_i ri g hT
    try simp only[hT]
    split at e
    ·rename_i es hO
     try simp only[hO]
     split at e
     ·rename_i hc
      try rw[if_pos hc]
      split at e
      ·rename_i σ1 σs hr
       rw[nO (fun p y hy=>qw h hy) hr]
       exact e
      ·simp at e
     ·simp at e
    ·simp at e
   ·simp at e
theorem AV {E:Env}: ∀n,Xf (exec E n) (exec E (n+1))
 | 0=>by intro c σ x e;simp[exec] at e
 | n+1=>by
   have ih:=AV (E:=E) n
   have:=Ao (E:=E) (rn (E:=E) ih) ih
   intro c σ x e
   simp only[exec] at e ⊢
   exact this _ _ _ e
theorem cu {E:Env} {n m:Nat} (h:n≤m):Xf (exec E n) (exec E m):=by
 induction h with
 | refl=>exact fun _ _ _ e=>e
 | step _ ih=>exact fun c σ x e=>AV _ _ _ _ (ih c σ x e)
theorem dO {E:Env} {n m:Nat} (h:n≤m):QW (call E n) (call E m):=rn (cu h)
def Ev (E:Env) (f:Nat) (args:List V) (res:eL):Prop:= ∃n,call E n f args=some res
def St.bM (σ:St) (r:Nat) (o:Obj):St:={σ with O:=cU σ.O r o}
inductive Tg {α β:Type} (a:α) (b:β):Type
 | mk
def GY (E:Env) (a:Act) (σ:St) (Q:V→St→Prop) (_:Tg σ Q:= .mk):Prop:= ∃n v σ',a.run (call E n) σ=some (v,σ')∧Q v σ'
def TH (E:Env) (os:List bX) (σ:St) (Q:St→Prop) (_:Tg os (σ,Q):= .mk):Prop:= ∃n σ',iw E (call E n) os σ=some σ'∧Q σ'
def mX (E:Env) (c:aS) (σ:St) (Q:aP→St→Prop) (_:Tg c (σ,Q):= .mk):Prop:= ∃n e σ',exec E n c σ=some (e,σ')∧Q e σ'
def xx (E:Env) (a:Act) (σ:St) (Q:V→St→List Loc→List Loc→Prop) (_:Tg σ Q:= .mk):Prop:= ∃n v σ',a.run (call E n) σ=some (v,σ')∧Q v σ' (a.cO (call E n) σ).reads (a.cO (call E n) σ).writes
def TJ (E:Env) (b9:List eB) (before:List (List Nat)) (os:List bX) (σ:St) (Q:St→Prop):Prop:= ∃n σ',eo E (call E n) os b9 before σ=some σ'∧Q σ'
section
variable {E:Env} {σ:St}
theorem MT {v:V} {Q:V→St→Prop}:GY E (.done v) σ Q=Q v σ:=by
 simp only[GY,Act.run,eq_iff_iff]
 constructor
 ·rintro⟨_,_,_,h,q⟩;injection h with h;injection h with h1 h2;subst h1 h2;exact q
 ·exact fun q=> ⟨0,_,_,rfl,q⟩
theorem ya {t:Nat} {k:Obj→Act} {Q:V→St→Prop}:GY E (.bP t k) σ Q=GY E (k (σ.O t)) σ Q:=by
 simp[GY,Act.run]
theorem D5 {t:Nat} {o:Obj} {k:Act} {Q:V→St→Prop}:GY E (.bM t o k) σ Q=GY E k (σ.bM t o) Q:=by
 simp[GY,Act.run,St.bM]
theorem Rq {Q:St→Prop}:TH E [] σ Q=Q σ:=by simp[TH,iw]
theorem MU {o:bX} {os:List bX} {Q:St→Prop}:TH E (o::os) σ Q=GY E (cJ E o) σ fun v σ'=>TH E os (σ'.put o.dst v) Q:=by
 simp only[TH,GY,iw,dK,eq_iff_iff]
 constructor
 ·rintro⟨n,σ2,h,q⟩
  split at h
  ·rename_i σ1 h1
   split at h1
   ·rename_i v σ0 h0
    injection h1 with h1;subst h1
    exact⟨n,v,σ0,h0,n,σ2,h,q⟩
   ·simp at h1
  ·simp at h
 ·rintro⟨n,v,σ0,h0,m,σ2,h,q⟩
  refine⟨max n m,σ2,?_,q⟩
  rw[Act.jR (dO (agw n m)) _ _ _ h0]
  exact oZ (dO (ago n m)) h
theorem MV {v:V} {Q:V→St→List Loc→List Loc→Prop}:xx E (.done v) σ Q=Q v σ [] []:=by
 simp only[xx,Act.run,Act.cO,eq_iff_iff]
 constructor
 ·rintro⟨_,_,_,h,q⟩;injection h with h;injection h with h1 h2;subst h1 h2;exact q
 ·exact fun q=> ⟨0,_,_,rfl,q⟩
theorem MW {t:Nat} {k:V→Act} {Q:V→St→List Loc→List Loc→Prop}:xx E (.mY t k) σ Q=xx E (k (σ.T t)) σ fun v σ' r w=>Q v σ' (.t t::r) w:=by
 simp[xx,Act.run,Act.cO]
theorem D6 {t:Nat} {k:Obj→Act} {Q:V→St→List Loc→List Loc→Prop}:xx E (.bP t k) σ Q=xx E (k (σ.O t)) σ fun v σ' r w=>Q v σ' (.o t::r) w:=by
 simp[xx,Act.run,Act.cO]
theorem MX {t:Nat} {o:Obj} {k:Act} {Q:V→St→List Loc→List Loc→Prop}:xx E (.bM t o k) σ Q=xx E k (σ.bM t o) fun v σ' r w=>Q v σ' r (.o t::w):=by
 simp[xx,Act.run,Act.cO,St.bM]
theorem MY {f:Nat} {aD:List V} {k:eL→Act} {Q:V→St→List Loc→List Loc→Prop}:xx E (.call f aD k) σ Q= ∃res,Ev E f aD res∧xx E (k res) σ Q:=by
 simp only[xx,eq_iff_iff]
 constructor
 ·rintro⟨n,v,σ',h,q⟩
  simp only[Act.run,Act.cO] at h q
  split at h
  ·rename_i res hr
   simp only[hr] at q
   exact⟨res,⟨n,hr⟩,n,v,σ',h,q⟩
  ·simp at h
 ·rintro⟨res,⟨n,hn⟩,m,v,σ',h,q⟩
  have e1:=dO (E:=E) (agw n m) _ _ _ hn
  have e2:=Act.jR (dO (E:=E) (ago n m)) _ _ _ h
  have e3:=Act.jn (dO (E:=E) (ago n m)) _ _ _ h
  refine⟨max n m,v,σ',?_,?_⟩
  ·simp only[Act.run,e1];exact e2
  ·simp only[Act.cO,e1,e3];exact q
theorem Rs {b9:List eB} {before:List (List Nat)} {Q:St→Prop}:TJ E b9 before [] σ Q=Q σ:=by simp[TJ,eo]
theorem MZ {b9:List eB} {before:List (List Nat)} {o:bX} {os:List bX} {Q:St→Prop}:
  TJ E b9 before (o::os) σ Q=xx E (cJ E o) σ fun v σ' r w=>
   (fits b9 (closure before o.pre) (eM o.op ⟨r,(match o.dst with| some d=> [.t d] | none=> [])++w⟩) b9.length &&o.pre.all (· <b9.length))=true∧
   TJ E (b9++[eM o.op ⟨r,(match o.dst with| some d=> [.t d] | none=> [])++w⟩]) (before++[closure before o.pre]) os (σ'.put o.dst v) Q:=by
 have key: ∀n,eo E (call E n) (o::os) b9 before σ=if (fits b9 (closure before o.pre) (cV E (call E n) o σ) b9.length &&o.pre.all (· <b9.length))=true then
   (match dK E (call E n) o σ with| some σ'=>eo E (call E n) os (b9++[cV E (call E n) o σ]) (before++[closure before o.pre]) σ'| none=>none) else none:=fun n=>rfl
 have Rt: ∀n v σ0,(cJ E o).run (call E n) σ=some (v,σ0)→dK E (call E n) o σ=some (σ0.put o.dst v):=fun n v σ0 h=>by simp only[dK,h]
 simp only[TJ,xx,eq_iff_iff]
 constructor
 ·rintro⟨n,σ2,h,q⟩
  rw[key n] at h
  by_cases hc: (fits b9 (closure before o.pre) (cV E (call E n) o σ) b9.length &&o.pre.all (· <b9.length))=true
  ·rw[if_pos hc] at h
   cases h0: (cJ E o).run (call E n) σ with
   | none=>simp[dK,h0] at h
   | some p=>
     obtain⟨v,σ0⟩:=p
     rw[Rt n v σ0 h0] at h
     exact⟨n,v,σ0,h0,hc,n,σ2,h,q⟩
  ·rw[if_neg hc] at h;simp at h
 ·rintro⟨n,v,σ0,h0,hc,m,σ2,h,q⟩
  refine⟨max n m,σ2,?_,q⟩
  have e3:cV E (call E (max n m)) o σ=cV E (call E n) o σ:=by
   simp only[cV,Act.jn (dO (E:=E) (agw n m)) _ _ _ h0]
  have Co: (fits b9 (closure before o.pre) (cV E (call E n) o σ) b9.length &&o.pre.all (· <b9.length))=true:=hc
  rw[key,e3,if_pos Co,Rt _ v σ0 (Act.jR (dO (agw n m)) _ _ _ h0)]
  exact mL (dO (ago n m)) h
def andThen (Q:aP→St→Prop) (k:St→Prop) (_:Tg Q k:= .mk):aP→St→Prop
 | .normal,σ=>k σ
 | .exit id,σ=>Q (.exit id) σ
 | .ret,σ=>Q .ret σ
def I9 (id:Nat) (Q:aP→St→Prop) (_:Tg id Q:= .mk):aP→St→Prop
 | .exit lW,σ=>if lW=id then Q .normal σ else Q (.exit lW) σ
 | .normal,σ=>Q .normal σ
 | .ret,σ=>Q .ret σ
theorem fy {c:aS} {Q Q':aP→St→Prop} (h:mX E c σ Q) (k: ∀e σ',Q e σ'→Q' e σ'):mX E c σ Q':=by
 obtain⟨n,e,σ',h1,h2⟩:=h
 exact⟨n,e,σ',h1,k _ _ h2⟩
theorem yb {Q:aP→St→Prop}:mX E .skip σ Q=Q .normal σ:=by
 simp only[mX,eq_iff_iff]
 constructor
 ·rintro⟨n,e,σ',h,q⟩
  cases n<;>simp[exec,aC] at h
  obtain⟨rfl,rfl⟩:=h;exact q
 ·exact fun q=> ⟨1,_,_,by simp[exec,aC],q⟩
theorem M0 {id:Nat} {Q:aP→St→Prop}:mX E (.exit id) σ Q=Q (.exit id) σ:=by
 simp only[mX,eq_iff_iff]
 constructor
 ·rintro⟨n,e,σ',h,q⟩
  cases n<;>simp[exec,aC] at h
  obtain⟨rfl,rfl⟩:=h;exact q
 ·exact fun q=> ⟨1,_,_,by simp[exec,aC],q⟩
theorem Ru {Q:aP→St→Prop}:mX E .ret σ Q=Q .ret σ:=by
 simp only[mX,eq_iff_iff]
 constructor
 ·rintro⟨n,e,σ',h,q⟩
  cases n<;>simp[exec,aC] at h
  obtain⟨rfl,rfl⟩:=h;exact q
 ·exact fun q=> ⟨1,_,_,by simp[exec,aC],q⟩
theorem Kl {b:aS} {Q:aP→St→Prop}:mX E (.scope b) σ Q=mX E b σ Q:=by
 simp only[mX,eq_iff_iff]
 constructor
 ·rintro⟨n,e,σ',h,q⟩
  cases n with
  | zero=>simp[exec] at h
  | succ n=>simp only[exec,aC] at h;exact⟨n,e,σ',h,q⟩
 ·rintro⟨n,e,σ',h,q⟩
  exact⟨n+1,e,σ',by simpa only[exec,aC] using h,q⟩
theorem GZ {ops:List bX} {Q:aP→St→Prop}:mX E (.region ops) σ Q=TH E ops σ (Q .normal):=by
 simp only[mX,TH,eq_iff_iff]
 constructor
 ·rintro⟨n,e,σ',h,q⟩
  cases n with
  | zero=>simp[exec] at h
  | succ n=>
    simp only[exec,aC,afZ] at h
    obtain⟨σ1,h1,h2⟩:=h
    injection h2 with h2 h3
    subst h2 h3
    exact⟨n,_,h1,q⟩
 ·rintro⟨n,σ',h,q⟩
  exact⟨n+1,_,σ',by simp only[exec,aC,afZ];exact⟨σ',h,rfl⟩,q⟩
theorem Km {ops:List bX} {Q:aP→St→Prop}:mX E (.drawn ops) σ Q=TJ E [] [] ops σ (Q .normal):=by
 simp only[mX,TJ,eq_iff_iff]
 constructor
 ·rintro⟨n,e,σ',h,q⟩
  cases n with
  | zero=>simp[exec] at h
  | succ n=>
    simp only[exec,aC,afZ] at h
    obtain⟨σ1,h1,h2⟩:=h
    injection h2 with h2 h3
    subst h2 h3
    exact⟨n,_,h1,q⟩
 ·rintro⟨n,σ',h,q⟩
  exact⟨n+1,_,σ',by simp only[exec,aC,afZ];exact⟨σ',h,rfl⟩,q⟩
theorem Ja {a b:aS} {Q:aP→St→Prop}:mX E (.seq a b) σ Q=mX E a σ (andThen Q fun σ'=>mX E b σ' Q):=by
 simp only[mX,eq_iff_iff]
 constructor
 ·rintro⟨n,e,σ',h,q⟩
  cases n with
  | zero=>simp[exec] at h
  | succ n=>
    simp only[exec,aC] at h
    split at h
    ·rename_i σ1 h1
     exact⟨n,_,_,h1,n,e,σ',h,q⟩
    ·rename_i hn
     refine⟨n,e,σ',h,?_⟩
     cases e with
     | normal=>exact absurd h (by simpa using hn σ')
     | exit id=>exact q
     | ret=>exact q
 ·rintro⟨n,e,σ1,h,q⟩
  cases e with
  | normal=>
    obtain⟨m,e,σ',h',q⟩:=q
    refine⟨max n m+1,e,σ',?_,q⟩
    simp only[exec,aC,cu (agw n m) _ _ _ h]
    exact cu (ago n m) _ _ _ h'
  | exit id=>exact⟨n+1,_,_,by simp only[exec,aC,h],q⟩
  | ret=>exact⟨n+1,_,_,by simp only[exec,aC,h],q⟩
theorem M1 {c:aT} {a b:aS} {Q:aP→St→Prop}:mX E (.cond c a b) σ Q=match bu σ c with| .bool true=>mX E a σ Q| .bool false=>mX E b σ Q| _=>False:=by
 simp only[mX,eq_iff_iff]
 constructor
 ·rintro⟨n,e,σ',h,q⟩
  cases n with
  | zero=>simp[exec] at h
  | succ n=>
    simp only[exec,aC] at h
    split at h
    ·rename_i he;simp only[he];exact⟨n,e,σ',h,q⟩
    ·rename_i he;simp only[he];exact⟨n,e,σ',h,q⟩
    ·simp at h
 ·intro h
  split at h
  · rename_i he
    obtain⟨n,e,σ',h,q⟩:=h
    exact⟨n+1,e,σ',by simp only[exec,aC,he];exact h,q⟩
  · rename_i he
    obtain⟨n,e,σ',h,q⟩:=h
    exact⟨n+1,e,σ',by simp only[exec,aC,he];exact h,q⟩
  ·exact h.elim
theorem Kn {id:Nat} {b:aS} {Q:aP→St→Prop}:mX E (.block id b) σ Q=mX E b σ (I9 id Q):=by
 simp only[mX,eq_iff_iff]
 constructor
 ·rintro⟨n,e,σ',h,q⟩
  cases n with
  | zero=>simp[exec] at h
  | succ n=>
    simp only[exec,aC] at h
    split at h
    ·rename_i lW σ1 h1
     refine⟨n,_,_,h1,?_⟩
     simp only[I9]
     split at h
     ·rename_i hi
      simp only[afY,af4] at h
      obtain⟨rfl,rfl⟩:=h
      simp only[hi,if_true];exact q
     ·rename_i hi
      simp only[afY,af4] at h
      obtain⟨rfl,rfl⟩:=h
      simp only[hi,if_false];exact q
    ·rename_i hn
     refine⟨n,e,σ',h,?_⟩
     cases e with
     | exit lW=>exact absurd h (by simpa using hn lW σ')
     | normal=>exact q
     | ret=>exact q
 ·rintro⟨n,e,σ1,h,q⟩
  cases e with
  | exit lW=>
    simp only[I9] at q
    by_cases hi:lW=id
    ·simp only[hi,if_true] at q
     exact⟨n+1,_,_,by simp only[exec,aC,h,hi,if_true],q⟩
    ·simp only[hi,if_false] at q
     exact⟨n+1,_,_,by simp only[exec,aC,h,hi,if_false],q⟩
  | normal=>exact⟨n+1,_,_,by simp only[exec,aC,h],q⟩
  | ret=>exact⟨n+1,_,_,by simp only[exec,aC,h],q⟩
theorem M3 {b:aS} {Q:aP→St→Prop}:mX E (.loop b) σ Q=mX E b σ (andThen Q fun σ'=>mX E (.loop b) σ' Q):=by
 simp only[mX,eq_iff_iff]
 constructor
 ·rintro⟨n,e,σ',h,q⟩
  cases n with
  | zero=>simp[exec] at h
  | succ n=>
    simp only[exec,aC] at h
    split at h
    ·rename_i σ1 h1
     exact⟨n,_,_,h1,n,e,σ',h,q⟩
    ·rename_i hn
     refine⟨n,e,σ',h,?_⟩
     cases e with
     | normal=>exact absurd h (by simpa using hn σ')
     | exit id=>exact q
     | ret=>exact q
 ·rintro⟨n,e,σ1,h,q⟩
  cases e with
  | normal=>
    obtain⟨m,e,σ',h',q⟩:=q
    refine⟨max n m+1,e,σ',?_,q⟩
    simp only[exec,aC,cu (agw n m) _ _ _ h]
    exact cu (ago n m) _ _ _ h'
  | exit id=>exact⟨n+1,_,_,by simp only[exec,aC,h],q⟩
  | ret=>exact⟨n+1,_,_,by simp only[exec,aC,h],q⟩
theorem vU {b:aS} {Q:aP→St→Prop} (I:Nat→St→Prop) (hI: ∀k σ,I k σ→mX E b σ (andThen Q fun σ'=> ∃j,j<k∧I j σ')):
   ∀ (k:Nat) (σ:St),I k σ→mX E (.loop b) σ Q:=by
 intro k
 induction k using Nat.strongRecOn with
 | _ k ih=>
   intro σ h
   rw[M3]
   refine fy (hI k σ h) fun e σ' he=> ?_
   cases e with
   | normal=>obtain⟨j,hj,h'⟩:=he;exact ih j hj σ' h'
   | exit id=>exact he
   | ret=>exact he
def fin (rs:List sU) (args:List V) (res:eL):aP→St→Prop
 | .exit _,_=>False
 | .normal,σ=>leave ⟨0,0,[],rs,.skip,none⟩ args σ=some res
 | .ret,σ=>leave ⟨0,0,[],rs,.skip,none⟩ args σ=some res
theorem Ev.ext {f:Nat} {args:List V} {res:eL} (h:E.ext f args=some res) (hh:E.hyb f=none:=by rfl):Ev E f args res:=⟨0,by simp[call,dm,eZ,h,hh]⟩
end
end Go.AM
namespace Go.AM
section
variable {E:Env} {σ:St}
def uU (E:Env):List bX→St→(List eB→St→Prop)→Prop
 | [],σ,Q=>Q [] σ
 | o::os,σ,Q=>xx E (cJ E o) σ fun v σ' r w=>uU E os (σ'.put o.dst v) fun fs σ''=>Q (eM o.op ⟨r,(match o.dst with| some d=> [.t d] | none=> [])++w⟩::fs) σ''
def XW (E:Env) (os:List bX) (σ:St) (Q:List eB→St→Prop) (_:Tg os (σ,Q):= .mk):Prop:=uU E os σ Q
def G0 (d:Option Nat) (w:List Loc):List Loc:=match d with| some d=> .t d::w| none=>w
theorem Rv {Q:List eB→St→Prop}:XW E [] σ Q=Q [] σ:=rfl
theorem M4 {o:bX} {os:List bX} {Q:List eB→St→Prop}:XW E (o::os) σ Q=xx E (cJ E o) σ fun v σ' r w=>XW E os (σ'.put o.dst v) fun fs σ''=>Q (eM o.op ⟨r,G0 o.dst w⟩::fs) σ'':=by
 have: ∀w,(match o.dst with| some d=> [Loc.t d] | none=> [])++w=G0 o.dst w:=by intro w;cases o.dst<;>rfl
 have h2: (fun (v:V) (σ':St) (r w:List Loc)=>uU E os (σ'.put o.dst v) fun fs σ''=>Q (eM o.op ⟨r,(match o.dst with| some d=> [.t d] | none=> [])++w⟩::fs) σ'')=(fun v σ' r w=>uU E os (σ'.put o.dst v) fun fs σ''=>Q (eM o.op ⟨r,G0 o.dst w⟩::fs) σ''):=by
  funext v σ' r w;rw[this]
 show xx E (cJ E o) σ (fun (v:V) (σ':St) (r w:List Loc)=>uU E os (σ'.put o.dst v) fun fs σ''=>Q (eM o.op ⟨r,(match o.dst with| some d=> [.t d] | none=> [])++w⟩::fs) σ'')=_
 rw[h2];rfl
def TK:List (List Nat)→List (List Nat)→List eB→List eB→Bool
 | [],_,_,_=>true
 | p::ps,before,b9,f::rest=> (fits b9 (closure before p) f b9.length &&p.all (· <b9.length)) &&TK ps (before++[closure before p]) (b9++[f]) rest
 | _::_,_,_,[]=>false
theorem o6 {a:Act} {Q Q':V→St→List Loc→List Loc→Prop} (h:xx E a σ Q) (k: ∀v σ' r w,Q v σ' r w→Q' v σ' r w):xx E a σ Q':=by
 obtain⟨n,v,σ',h1,h2⟩:=h
 exact⟨n,v,σ',h1,k _ _ _ _ h2⟩
theorem sV: ∀ {os:List bX} {σ:St} {Q Q':List eB→St→Prop},uU E os σ Q→(∀fs σ',Q fs σ'→Q' fs σ')→uU E os σ Q'
 | [],_,_,_,h,k=>k _ _ h
 | o::os,_,_,_,h,k=>by
   simp only[uU] at h ⊢
   exact o6 h fun v σ' r w h'=>sV h' fun fs σ'' h''=>k _ _ h''
theorem M5 {Q:St→Prop}: ∀ {os:List bX} {σ:St} {b9:List eB} {before:List (List Nat)},
   uU E os σ (fun fs σ'=>TK (os.map (·.pre)) before b9 fs=true∧Q σ')→TJ E b9 before os σ Q
 | [],_,_,_,h=>by rw[Rs];exact h.2
 | o::os,σ,b9,before,h=>by
   rw[MZ]
   simp only[uU,List.map_cons,TK,af2] at h
   refine o6 h fun v σ' r w h'=> ?_
   have h1:uU E os (σ'.put o.dst v) (fun fs σ''=> (fits b9 (closure before o.pre) (eM o.op ⟨r,(match o.dst with| some d=> [.t d] | none=> [])++w⟩) b9.length &&o.pre.all (· <b9.length))=true):=
    sV h' fun fs σ'' hh=>by
      have:=hh.1
      simp only[List.map_cons,TK,af2] at this
      simp only[af2];exact this.1
   have const: ∀ {os:List bX} {σ:St} {p:Prop},uU E os σ (fun _ _=>p)→p:=by
    intro os
    induction os with
    | nil=>intro σ p h;exact h
    | cons o os ih=>
      intro σ p h
      simp only[uU] at h
      obtain⟨n,v,σ',_,h2⟩:=h
      exact ih h2
   refine⟨const h1,M5 (sV h' fun fs σ'' hh=> ⟨by have:=hh.1;simp only[List.map_cons,TK,af2] at this;exact this.2,hh.2⟩)⟩
theorem Cp {ops:List bX} {Q:aP→St→Prop} (h:XW E ops σ (fun fs σ'=>TK (ops.map (·.pre)) [] [] fs=true∧Q .normal σ')):mX E (.drawn ops) σ Q:=by
 rw[Km];exact M5 h
theorem D7 {t:Nat}:bu σ (.tmp t)=σ.T t:=rfl
theorem Ap {v:V}:bu σ (.const v)=v:=rfl
theorem jI: ∀ {cs:List V},V.ak cs=true→ ∀ {x:V},x ∈ cs→x.au=true
 | [],_,x,h=>by simp at h
 | c::cs,h,x,hx=>by
   simp only[V.ak,af2] at h
   rcases af7.1 hx with rfl| hx
   ·exact h.1
   ·exact jI h.2 hx
theorem rW: ∀ {cs:List V},(∀x ∈ cs,V.au x=true)→V.ak cs=true
 | [],_=>rfl
 | c::cs,h=>by
   simp only[V.ak,af2]
   exact⟨h c afU,rW fun x hx=>h x (by simp[hx])⟩
theorem dT {args:List V} (h:V.ak args=true):enter args=⟨fun t=>args.getD t dE,fun _=>bE⟩:=by
 have key: ∀ (t:Nat) (a:V),args[t]? =some a→a.au=true:=fun t a ht=>jI h (List.mem_of_getElem? ht)
 unfold enter
 congr 1
 ·funext t
  cases ha:args[t]? with
  | none=>simp[List.getD,ha]
  | some a=>have:=key t a ha;simp only[List.getD,ha,ahT];cases a<;>simp_all[V.au]
 ·funext t
  cases ha:args[t]? with
  | none=>rfl
  | some a=>have:=key t a ha;cases a<;>simp_all[V.au]
end
def dy (sz lim:Nat):List V→Option eL
 | [.nils]=>some ⟨.own sz [],[]⟩
 | [.lit sz' xs]=>if sz'=sz∧xs.length≤lim then some ⟨.own sz xs,[]⟩ else none
 | _=>none
def AW:List V→Option eL
 | [.float b]=>match FloatKind.f64.format.sqrt b with
   | some r=>some ⟨.float r,[]⟩
   | none=>none
 | _=>none
theorem jS {O:Nat→Obj}: ∀ {args:List V} {i:Nat},V.ak args=true→cI O i args=some []
 | [],_,_=>rfl
 | a::aD,i,h=>by
   simp only[V.ak,af2] at h
   have:=jS (O:=O) (i:=i+1) h.2
   cases a<;>simp_all[cI,V.au]
def D8 (sz:Nat) (xs:List V) (v:V):Prop:=v= .lit sz xs∨v= .nils∧xs=[]
theorem D8.pure {sz:Nat} {xs:List V} {v:V} (h:D8 sz xs v):v.au=true:=by
 rcases h with rfl| ⟨rfl,_⟩ <;>rfl
theorem D8.len {sz:Nat} {xs:List V} {v:V} (h:D8 sz xs v):Rw v=some (.int .i64 xs.length):=by
 rcases h with rfl| ⟨rfl,rfl⟩ <;>rfl
theorem D8.lit {sz:Nat} {xs:List V}:D8 sz xs (.lit sz xs):= .inl rfl
theorem D8.aR {sz:Nat} {xs:List V} {v:V} (h:D8 sz xs v):v.aR=true:=by
 rcases h with rfl| ⟨rfl,_⟩ <;>rfl
def Cq (sz:Nat) (v i:V):Act:=
 match v,i with
 | .sl r g off len,.int _ n=> .bP r fun o=>if 0≤n∧n<len∧o.sz=sz∧o.gen=g then .done (.ptr r g (off+n.toNat) 0) else .fail
 | .lit sz' xs,.int _ n=>if 0≤n∧sz'=sz then match xs[n.toNat]? with
    | some e=> .done (.eptr e 0)
    | none=> .fail
   else .fail
 | .litk sz' xs,.int _ n=>if 0≤n∧sz'=sz∧0 <sz then match xs[n.toNat]? with
    | some e=> .done (.epk n.toNat sz e 0)
    | none=> .fail
   else .fail
 | _,_=> .fail
theorem Aq {E:Env} {sz:Nat} {x i:aT}:aH E (.indexAddr sz x i)=ev x fun v=>ev i fun i=>Cq sz v i:=rfl
def Cr ( sz:Nat) (v:V) (l h m:Option V):Act:=
 match v with
 | .sl r g off len=> .bP r fun o=>match o.es with
   | some es=>if o.gen=g∧o.sz=sz then
      match cK 0 l,cK len h,m with
      | some l,some h,none=>if l≤h∧off+h≤es.length then .done (.sl r g (off+l) (h - l)) else .fail
      | some l,some h',some m=>match h,cK 0 (some m) with
        | some _,some m=>if l≤h'∧h'≤m∧off+m≤es.length then .done (if m=l then .nils else .any) else .fail
        | _,_=> .fail
      | _,_,_=> .fail
     else .fail
   | none=> .fail
 | v=>eC (yc sz v l h m)
theorem Ko {E:Env} {sz:Nat} {x:aT} {lo hi mx:Option aT}:aH E (.slice sz x lo hi mx)=ev x fun v=>Mw lo fun l=>Mw hi fun h=>Mw mx fun m=>Cr sz v l h m:=rfl
def G1 (r sz lim:Nat) (s:V) (ys:List V):Act:=
 if ys.all (aU · sz) &&decide (0 <sz) then match s with
  | .nils=>if ys.isEmpty then .done .nils else if ys.length≤lim then
      .bP r fun o=> .bM r {gen:=o.gen+1,sz,arr:=true,fz:=false,es:=some ys} (.done (.sl r (o.gen+1) 0 ys.length)) else .fail
  | .lit sz' xs=>if ys.isEmpty then .done (.lit sz' xs) else .fail
  | .sl r' g off len=> .bP r' fun o=>match o.es with
    | some es=>if o.gen=g∧o.arr=true∧o.fz=false∧o.sz=sz∧off+len≤es.length∧len+ys.length≤lim then
        if off+len+ys.length≤es.length then
             .bM r' {o with es:=some (overwrite es (off+len) ys)} (.done (.sl r' g off (len+ys.length)))
        else
             .bM r' {o with gen:=g+1,es:=some (aF es off len++ys)} (.done (.sl r' (g+1) 0 (len+ys.length)))
      else .fail
    | none=> .fail
  | _=> .fail
  else .fail
theorem G2 {E:Env} {r sz lim:Nat} {s x:aT}:aH E (.append r sz lim s x)=ev s fun s=>ev x fun x=>content sz x fun ys=>mM ys fun ys=>G1 r sz lim s ys:=rfl
theorem fX {α:Type} (f:α→V) (l:List α) (a b:Nat):AM.aF (l.map f) a b=((l.drop a).take b).map f:=by
 simp[AM.aF,ahM,List.map_drop]
theorem yd {xs:List V} {n:Nat} (h:n=xs.length):AM.aF xs 0 n=xs:=by
 subst h;simp[AM.aF]
def firstIdx {α:Type} (p:α→Bool) (xs:List α):Int:=match xs.findIdx? p with
 | some i=>i
 | none=> -1
theorem ye {α:Type} {p:α→Bool} {xs:List α} {i:Nat} {x:α} (h: ∀j y,j<i→xs[j]? =some y→p y=false) (hx:xs[i]? =some x) (hp:p x=true):firstIdx p xs=i:=by
 have:xs.findIdx? p=some i:=by
  rw[ag2]
  obtain⟨hl,hv⟩:=af0.1 hx
  refine⟨hl,by rw[hv];exact hp,fun j hj=> ?_⟩
  have:=h j _ hj (af3 ae0)
  simp[this]
 simp[firstIdx,this]
theorem firstIdx_none {α:Type} {p:α→Bool} {xs:List α} (h: ∀ (j:Nat) (y:α),xs[j]? =some y→p y=false):firstIdx p xs= -1:=by
 have:xs.findIdx? p=none:=by
  rw[ahR]
  intro x hx
  obtain⟨j,hj⟩:=agt.1 hx
  exact h j x hj
 simp[firstIdx,this]
theorem xy (a b:Int): (a==b)=decide (a=b):=by
 by_cases h:a=b
 ·simp[h]
 ·simp[h]
theorem Jb (a b:Int): (a !=b)= !decide (a=b):=by simp[bne,xy]
theorem wrap64 {n:Int} (h0: -9223372036854775808≤n) (h1:n≤9223372036854775807):IntKind.i64.wrap n=n:=by
 simp[IntKind.wrap,IntKind.bits,IntKind.signed]
 omega
end Go.AM
namespace Go.AM
section
variable {α:Type}
def G3 (le:α→α→Bool) (x:α):List α→List α
 | []=> [x]
 | y::ys=>if le x y then x::y::ys else y::G3 le x ys
def oJ (le:α→α→Bool):List α→List α
 | []=> []
 | x::xs=>G3 le x (oJ le xs)
theorem uV (le:α→α→Bool) (x:α): ∀l:List α,(G3 le x l).Perm (x::l)
 | []=> .refl _
 | y::ys=>by
   unfold G3
   split
   ·exact .refl _
   ·exact((uV le x ys).cons y).trans (.swap x y ys)
theorem nP (le:α→α→Bool): ∀l:List α,(oJ le l).Perm l
 | []=> .refl _
 | x::xs=> (uV le x _).trans ((nP le xs).cons x)
theorem vV {le:α→α→Bool} (ht: ∀a b c,le a b=true→le b c=true→le a c=true) (hl: ∀a b,(le a b || le b a)=true) (x:α): ∀ {l:List α},l.Pairwise (le · ·)→(G3 le x l).Pairwise (le · ·)
 | [],_=>by simp[G3]
 | y::ys,h=>by
   unfold G3
   split
   ·rename_i Mx
    rw[List.pairwise_cons] at h ⊢
    exact⟨fun z hz=>by
     rcases af7.1 hz with rfl| hz
     ·exact Mx
     ·exact ht _ _ _ Mx (h.1 z hz),List.pairwise_cons.2 h⟩
   ·rename_i Mx
    rw[List.pairwise_cons] at h ⊢
    refine⟨fun z hz=> ?_,vV ht hl x h.2⟩
    have hz:=(uV le x ys).mem_iff.1 hz
    rcases af7.1 hz with rfl| hz
    ·have:=hl z y
     simp only[aht] at this
     exact this.resolve_left Mx
    ·exact h.1 z hz
theorem nQ {le:α→α→Bool} (ht: ∀a b c,le a b=true→le b c=true→le a c=true) (hl: ∀a b,(le a b || le b a)=true): ∀l:List α,(oJ le l).Pairwise (le · ·)
 | []=>by simp[oJ]
 | x::xs=>vV ht hl x (nQ ht hl xs)
theorem AX {le:α→α→Bool} (ha: ∀a b,le a b=true→le b a=true→a=b): ∀ {l l':List α},l.Perm l'→l.Pairwise (le · ·)→l'.Pairwise (le · ·)→l=l':=by
 intro l l' hp h h'
 exact hp.eq_of_pairwise (fun a b _ _ h1 h2=>ha a b h1 h2) h h'
theorem w9 {le:α→α→Bool} (ha: ∀a b,le a b=true→le b a=true→a=b) (ht: ∀a b c,le a b=true→le b c=true→le a c=true) (hl: ∀a b,(le a b || le b a)=true) (l:List α):l.mergeSort le=oJ le l:=
 AX ha ((List.mergeSort_perm l le).trans (nP le l).symm) (List.pairwise_mergeSort ht hl l) (nQ ht hl l)
end
def My (x y:Int):Bool:=decide (x≤y)
def ed (l:List Int):List Int:=oJ My l
theorem D9 (l:List Int): (l.mergeSort fun x y=>decide (x≤y))=ed l:=
 w9 (le:=My) (fun a b h1 h2=>by simp[My] at h1 h2;omega) (fun a b c h1 h2=>by simp[My] at h1 h2 ⊢;omega) (fun a b=>by simp[My];omega) l
def nR:List V→Option (List Int)
 | []=>some []
 | .int .i64 n::vs=> (nR vs).map (n:: ·)
 | _=>none
theorem uW: ∀ {vs:List V} {zs:List Int},nR vs=some zs→vs=zs.map (V.int .i64)
 | [],zs,h=>by simp[nR] at h;subst h;rfl
 | v::vs,zs,h=>by
   unfold nR at h
   split at h
   ·rename_i heq;simp at heq
   ·rename_i n vs' heq
    injection heq with e1 e2
    subst e1;subst e2
    rw[afZ] at h
    obtain⟨ys,h1,rfl⟩:=h
    rw[uW h1];rfl
   ·simp at h
theorem rX: ∀zs:List Int,nR (zs.map (V.int .i64))=some zs
 | []=>rfl
 | z::zs=>by simp only[List.map_cons,nR,rX zs,agc]
def Ea:List V→Option eL
 | [.msl 1 es 0 len]=>if len=es.length then match nR es with
     | some zs=>if zs.length< 4611686018427387904 then some ⟨.tuple [],[(0,(ed zs).map (V.int .i64))]⟩ else none
     | none=>none
   else none
 | _=>none
end Go.AM
namespace Go.AM
def XX (tab:List (Nat×aM)) (f:Nat):Option aM:=(tab.find? (·.1==f)).map (·.2)
def TL (tab:List (Nat× (List V→Option eL))) (f:Nat) (aD:List V):Option eL:=match tab.find? (·.1==f) with
 | some p=>p.2 aD
 | none=>none
structure QX where
 h: (Nat→List V→Option eL)→List V→Option eL
 mono: ∀ (C C':Nat→List V→Option eL),(∀g vs r,C g vs=some r→C' g vs=some r)→ ∀vs r,h C vs=some r→h C' vs=some r
def Jc (tab:List (Nat×QX)) (f:Nat):Option ((Nat→List V→Option eL)→List V→Option eL):=(tab.find? (·.1==f)).map (·.2.h)
theorem G4 (tab:List (Nat×QX)): ∀f h,Jc tab f=some h→ ∀ (C C':Nat→List V→Option eL),(∀g vs r,C g vs=some r→C' g vs=some r)→ ∀vs r,h C vs=some r→h C' vs=some r:=by
 intro f h hf
 unfold Jc at hf
 rw[afZ] at hf
 obtain⟨p,_,rfl⟩:=hf
 exact p.2.mono
def M6 (tab:List (Nat× (List V→Option (List (List V))))) (g:Nat) (caps:List V):Option (List (List V)):=match tab.find? (·.1==g) with
 | some p=>p.2 caps
 | none=>none
abbrev UR:=List V→List V→Option (V×List V)
def M7 (tab:List (Nat×UR)) (f:Nat):Option UR:=(tab.find? (·.1==f)).map (·.2)
def mkEM (tab:List (Nat×aM)) (ext:List (Nat× (List V→Option eL))) (hyb:List (Nat×QX)) (iter:List (Nat× (List V→Option (List (List V))))) (em:List (Nat×UR)):Env:={fn:=XX tab,ext:=TL ext,hyb:=Jc hyb,mono:=G4 hyb,iter:=M6 iter,Cs:=M7 em}
def mkE (tab:List (Nat×aM)) (ext:List (Nat× (List V→Option eL))) (hyb:List (Nat×QX)) (iter:List (Nat× (List V→Option (List (List V))))):Env:=mkEM tab ext hyb iter []
abbrev od (d:Nat) (x:sW):bX:=⟨some d,x,none,[]⟩
abbrev ow (x:sW):bX:=⟨none,x,none,[]⟩
abbrev op (d:Nat) (x:sW) (p:List Nat):bX:=⟨some d,x,none,p⟩
abbrev ic (n:Int):aT:= .const (.int .i64 n)
abbrev fc (n:Nat):aT:= .const (.fn n [])
end Go.AM
namespace Go.AM
def fa:Nat→List V→List (List V)
 | i,p::q::rest=> [.int .i64 (i:Int),.agg (p.cells++q.cells)]::fa (i+1) (q::rest)
 | _,_=> []
def Jd:List V→Option (List (List V))
 | [.eptr (.lit 2 ps) 0]=>if ps.length< 4611686018427387904 then some (fa 0 ps) else none
 | [.eptr .nils 0]=>some []
 | _=>none
end Go.AM
namespace Go.AM
def xa (skip:Bool) (n:Int):Nat→List V→List (List V)
 | i,p::q::rest=> (if skip && (decide ((i:Int)=n - 1) || decide ((i:Int)=n)) then [] else [[p,q]])++xa skip n (i+1) (q::rest)
 | _,_=> []
def Rx:V→Bool
 | .agg [_,_]=>true
 | _=>false
def Eb (e n:Int):Nat→List V→Option (List (List V))
 | _,[]=>some []
 | k,.agg [.int .i64 _,.lit 2 ps,.int .i64 _,.int .i64 _]::es=>if ps.length< 4611686018427387904∧ps.all Rx=true then(Eb e n (k+1) es).map (xa (decide ((k:Int)=e)) n 0 ps++ ·) else none
 | _,_=>none
def M8:List V→Option (List (List V))
 | [.eptr (.agg [.lit 4 es,_,_,_]) 0,.eptr (.agg (.int .i64 e:: .int .i64 n::_)) 0]=>if es.length< 4611686018427387904∧0≤n∧n< 4611686018427387904 then Eb e n 0 es else none
 | _=>none
end Go.AM
namespace Go.AM
def Ec:Nat→Int→List V→Option (List (List V))
 | _,_,[]=>some []
 | i,b,.agg [.int .i64 _,.int .i64 a,.int .i64 _,.int .i64 _,.int .i64 _]::es=>if 0≤a∧a≤1024 then(Ec (i+1) (a*a) es).map ([.int .i64 (i:Int),.agg [.int .i64 b,.int .i64 (a*a)]]:: ·) else none
 | _,_,_=>none
def G5:List V→Option (List (List V))
 | [.eptr (.agg [.int .i64 _,.lit 5 es]) 0]=>if es.length< 4611686018427387904 then Ec 0 0 es else none
 | [.eptr (.agg [.int .i64 _,.nils]) 0]=>some []
 | _=>none
end Go.AM
namespace Go.AM
def jo:Nat→List V→V→Option (V×List V)
 | 0,_,_=>none
 | n+1,es,x=>match cG [1,1,1] x es with
   | some none=>some (x,es)
   | some (some y)=>match dn [1,1,1] y x with
     | some true=>some (x,es)
     | some false=>match jo n es y with
       | some (r,es')=> (dF [1,1,1] x r es').map (r,·)
       | none=>none
     | none=>none
   | none=>none
def bK:V→Bool
 | .agg [.int .i64 _,.int .i64 _,.int .i64 _]=>true
 | _=>false
def iL:V→Bool
 | .tuple [k,v]=>bK k &&bK v
 | _=>false
def AY (es aD:List V):Option (V×List V):=match aD with
 | [x]=>if bK x &&es.all iL then jo 1000000 es x else none
 | _=>none
def AZ (es aD:List V):Option (V×List V):=match aD with
 | [a,b]=>if bK a &&bK b &&es.all iL then(match jo 1000000 es a with
     | some (ra,QY)=>match jo 1000000 QY b with
       | some (rb,Ar)=> (dF [1,1,1] ra rb Ar).map (.tuple [],·)
       | none=>none
     | none=>none) else none
 | _=>none
end Go.AM
namespace Go.AM
def Kq:V→Option Int
 | .agg [.int .i64 _,.int .i64 a,.int .i64 _,.int .i64 _,.int .i64 _]=>some a
 | _=>none
def o7:V→Bool
 | .lit _ _=>true
 | _=>false
def kj:V→Bool
 | .agg [e,f,w,p]=>o7 e && (o7 f && (o7 w &&o7 p))
 | _=>false
def gN (C:Nat→List V→Option eL) (d:Int):Nat→V→Int→List V→Option (List V)
 | 0,_,_,evs=>some evs
 | n+1,m,b,evs=>match C 644 [m,.int .i64 d,.int .i64 b] with
   | some ⟨.tuple [e,.bool true],[]⟩=> (match Kq e,C 645 [m,e] with
     | some a,some ⟨.tuple [m',.int .i64 err],[]⟩=>
       if kj m'=true then(if err=0 then gN C d n m' a (evs++[e]) else some evs) else none
     | _,_=>none)
   | some ⟨.tuple [e,.bool false],[]⟩=> (match Kq e with
     | some _=>some evs
     | none=>none)
   | _=>none
def Ed (d:Int):List V→V
 | []=> .agg [.int .i64 d,.lit 5 []]
 | evs=> .agg [.int .i64 d,.own 5 evs]
def yf (C:Nat→List V→Option eL):List V→Option eL
 | [m,.int .i64 d]=>if kj m=true then(gN C d 200 m 0 []).map fun evs=> ⟨Ed d evs,[]⟩ else none
 | _=>none
theorem yg {C C':Nat→List V→Option eL} (h: ∀g vs r,C g vs=some r→C' g vs=some r) {d:Int}: ∀ {n:Nat} {m:V} {b:Int} {evs r:List V},gN C d n m b evs=some r→gN C' d n m b evs=some r
 | 0,_,_,_,_,hr=>hr
 | n+1,m,b,evs,r,hr=>by
   unfold gN at hr ⊢
   rcases h1:C 644 [m,.int .i64 d,.int .i64 b] with _| x
   ·simp only[h1] at hr;cases hr
   ·rw[h _ _ _ h1]
    rw[h1] at hr
    split at hr
    ·rename_i e he
     injection he with he
     subst he
     rcases ha:Kq e with _| a
     ·simp only[ha] at hr;cases hr
     · rcases h2:C 645 [m,e] with _| y
       ·simp only[ha,h2] at hr;cases hr
       ·simp only[ha,h _ _ _ h2]
        simp only[ha,h2] at hr
        split at hr
        ·rename_i a' m' err e1 e2
         injection e1 with e1
         injection e2 with e2
         subst e1 e2
         by_cases hm:kj m'=true
         ·rw[if_pos hm] at hr ⊢
          by_cases he:err=0
          ·rw[if_pos he] at hr ⊢
           exact yg h hr
          ·rw[if_neg he] at hr ⊢;exact hr
         ·rw[if_neg hm] at hr;cases hr
        ·cases hr
    ·rename_i e he
     exact hr
    ·cases hr
def Je:QX where
 h:=yf
 mono:=fun C C' h vs r hr=>by
  unfold yf at hr ⊢
  split at hr
  ·split at hr
   ·rename_i hc
    rw[afZ] at hr
    obtain⟨evs,h1,h2⟩:=hr
    simp only[if_pos hc,yg h h1,agc,h2]
   ·cases hr
  ·cases hr
end Go.AM
namespace Go.AM
structure SS where
 T:List (Nat×V)
 O:List (Nat×Obj)
def lk {α:Type}:List (Nat×α)→Nat→Option α
 | [],_=>none
 | (k,v)::l,n=>bif Nat.beq k n then some v else lk l n
def SS.On (S:SS) (σ:St):Prop:=(∀t v,lk S.T t=some v→σ.T t=v)∧(∀r o,lk S.O r=some o→σ.O r=o)
def SS.put (S:SS) (d:Option Nat) (v:V):SS:=match d with
 | some d=> ⟨(d,v)::S.T,S.O⟩
 | none=>S
def SS.bM (S:SS) (r:Nat) (o:Obj):SS:=⟨S.T,(r,o)::S.O⟩
theorem eP {α:Type} {p:Nat×α} {l:List (Nat×α)} {n:Nat}:lk (p::l) n=if p.1=n then some p.2 else lk l n:=by
 obtain⟨k,v⟩:=p
 simp only[lk]
 by_cases h:k=n
 ·simp[h]
 ·have:Nat.beq k n=false:=by
   cases hb:Nat.beq k n with
   | false=>rfl
   | true=>exact absurd (agx hb) h
  simp[h,this]
theorem SS.On.put {S:SS} {σ:St} (h:S.On σ) (d:Option Nat) (v:V): (S.put d v).On (σ.put d v):=by
 cases d with
 | none=>exact h
 | some d=>
   refine⟨fun t x hx=> ?_,fun r o ho=> ?_⟩
   ·simp only[SS.put,eP] at hx
    show cU σ.T d v t=x
    unfold cU
    by_cases e:d=t
    ·simp only[e,if_true,afY] at hx ⊢;exact hx
    ·rw[if_neg e] at hx;rw[if_neg (ag8 e)];exact h.1 t x hx
   ·exact h.2 r o ho
theorem SS.On.bM {S:SS} {σ:St} (h:S.On σ) (r:Nat) (o:Obj): (S.bM r o).On (σ.bM r o):=by
 refine⟨fun t x hx=>h.1 t x hx,fun r' x hx=> ?_⟩
 simp only[SS.bM,eP] at hx
 show cU σ.O r o r'=x
 unfold cU
 by_cases e:r=r'
 ·simp only[e,if_true,afY] at hx ⊢;exact hx
 ·rw[if_neg e] at hx;rw[if_neg (ag8 e)];exact h.2 r' x hx
inductive bD:Type 1 where
 | done (v:V)
 | fail
 | mY (t:Nat) (k:V→bD)
 | bP (r:Nat) (k:Obj→bD)
 | bM (r:Nat) (o:Obj) (k:bD)
 | sX (r:Nat) (k:Nat→bD)
 | call (f:Nat) (args:List V) (k:eL→bD)
 | bU (p:Prop) (k:bD)
 | ex (α:Type) (p:α→Prop) (k:α→bD)
 | ite (b:Bool) (x y:bD)
 | alt (x y:bD)
 | all (k:Nat→bD)
 | Xg (a:Act)
def Ref:bD→Act→Prop
 | .done v,a=>a= .done v
 | .fail,_=>True
 | .mY t k,a=> ∃k0,a= .mY t k0∧ ∀v,Ref (k v) (k0 v)
 | .bP r k,a=> ∃k0,a= .bP r k0∧ ∀o,Ref (k o) (k0 o)
 | .bM r o k,a=> ∃k0,a= .bM r o k0∧Ref k k0
 | .sX r k,a=> ∃k0,a= .bP r k0∧ ∀o:Obj,Ref (k (o.gen+1)) (k0 o)
 | .call f aD k,a=> ∃k0,a= .call f aD k0∧ ∀res,Ref (k res) (k0 res)
 | .bU p k,a=>p→Ref k a
 | .ex _ p k,a=> ∀x,p x→Ref (k x) a
 | .ite b x y,a=> (b=true→Ref x a)∧(b=false→Ref y a)
 | .alt x y,a=>Ref x a∧Ref y a
 | .all k,a=> ∃n,Ref (k n) a
 | .Xg b,a=>a=b
structure mZ (p q:Prop):Prop where
 side:p
 rest:q
inductive dj {α:Type} (p q:α→Prop):Prop
 | mk (x:α) (h:p x) (k:q x)
structure Br (b:Bool) (p q:Prop):Prop where
 yes:b=true→p
 no:b=false→q
inductive fA (E:Env) (f:Nat) (aD:List V) (q:eL→Prop):Prop
 | mk (res:eL) (h:Ev E f aD res) (k:q res)
theorem Br.tt {p q:Prop} (h:p):Br true p q:=⟨fun _=>h,fun h=>by cases h⟩
theorem Br.ff {p q:Prop} (h:q):Br false p q:=⟨fun h=> (by cases h),fun _=>h⟩
theorem Br.dec {c:Prop} {_:Decidable c} {p q:Prop} (h:c→p) (k: ¬c→q):Br (decide c) p q:=⟨fun e=>h (of_decide_eq_true e),fun e=>k (of_decide_eq_false e)⟩
theorem Br.abB {c:Prop} {_:Decidable c} {p q:Prop} (h: ¬c→p) (k:c→q):Br (!decide c) p q:=by
 refine⟨fun e=>h ?_,fun e=>k ?_⟩
 ·simpa using e
 ·simpa using e
theorem Br.t {c:Prop} {_:Decidable c} {p q:Prop} (h:c) (k:p):Br (decide c) p q:=⟨fun _=>k,fun e=>absurd h (of_decide_eq_false e)⟩
theorem Br.f {c:Prop} {_:Decidable c} {p q:Prop} (h: ¬c) (k:q):Br (decide c) p q:=⟨fun e=>absurd (of_decide_eq_true e) h,fun _=>k⟩
theorem Br.nt {c:Prop} {_:Decidable c} {p q:Prop} (h: ¬c) (k:p):Br (!decide c) p q:=⟨fun _=>k,fun e=>absurd ((by simpa using e:c)) h⟩
theorem Br.nf {c:Prop} {_:Decidable c} {p q:Prop} (h:c) (k:q):Br (!decide c) p q:=⟨fun e=>absurd h ((by simpa using e: ¬c)),fun _=>k⟩
theorem Br.bt {b:Bool} {p q:Prop} (h:b=true) (k:p):Br b p q:=⟨fun _=>k,fun e=> (by rw[h] at e;cases e)⟩
theorem Br.bf {b:Bool} {p q:Prop} (h:b=false) (k:q):Br b p q:=⟨fun e=> (by rw[h] at e;cases e),fun _=>k⟩
abbrev KK:=V→SS→List Loc→List Loc→Prop
structure M9 (E:Env) (a:Act) (S:SS) (Q:KK):Prop where
 h: ∀σ,S.On σ→xx E a σ fun v σ' r w=> ∃S',S'.On σ'∧Q v S' r w
def fb (E:Env):bD→SS→KK→Prop
 | .done v,S,Q=>Q v S [] []
 | .fail,_,_=>False
 | .mY t k,S,Q=>match lk S.T t with
   | some v=>fb E (k v) S fun v S' r w=>Q v S' (.t t::r) w
   | none=>False
 | .bP t k,S,Q=>match lk S.O t with
   | some v=>fb E (k v) S fun v S' r w=>Q v S' (.o t::r) w
   | none=>False
 | .bM t o k,S,Q=>match S with
   | ⟨T,O⟩=>fb E k ⟨T,(t,o)::O⟩ fun v S' r w=>Q v S' r (.o t::w)
 | .sX t k,S,Q=> ∀g:Nat,fb E (k g) S fun v S' r w=>Q v S' (.o t::r) w
 | .call f aD k,S,Q=>fA E f aD fun res=>fb E (k res) S Q
 | .bU p k,S,Q=>mZ p (fb E k S Q)
 | .ex _ p k,S,Q=>dj p fun x=>fb E (k x) S Q
 | .ite b x y,S,Q=>Br b (fb E x S Q) (fb E y S Q)
 | .alt x y,S,Q=>fb E x S Q∨fb E y S Q
 | .all k,S,Q=> ∀n,fb E (k n) S Q
 | .Xg a,S,Q=>M9 E a S Q
theorem cW {E:Env}: ∀ {a2:bD} {a:Act} {S:SS} {Q:KK} {σ:St},Ref a2 a→fb E a2 S Q→S.On σ→xx E a σ fun v σ' r w=> ∃S',S'.On σ'∧Q v S' r w
 | .done v,a,S,Q,σ,hr,h,ho=>by
   simp only[Ref] at hr;subst hr
   rw[MV];exact⟨S,ho,h⟩
 | .fail,_,_,_,_,_,h,_=>by simp[fb] at h
 | .mY t k,a,S,Q,σ,hr,h,ho=>by
   obtain⟨k0,rfl,hk⟩:=hr
   rw[MW]
   simp only[fb] at h
   split at h
   ·rename_i v hv
    rw[ho.1 t v hv]
    exact cW (hk v) h ho
   ·exact h.elim
 | .bP t k,a,S,Q,σ,hr,h,ho=>by
   obtain⟨k0,rfl,hk⟩:=hr
   rw[D6]
   simp only[fb] at h
   split at h
   ·rename_i v hv
    rw[ho.2 t v hv]
    exact cW (hk v) h ho
   ·exact h.elim
 | .bM t o k,a,S,Q,σ,hr,h,ho=>by
   obtain⟨k0,rfl,hk⟩:=hr
   rw[MX]
   simp only[fb] at h
   obtain⟨T,O⟩:=S
   exact cW hk h (ho.bM t o)
 | .sX t k,a,S,Q,σ,hr,h,ho=>by
   obtain⟨k0,rfl,hk⟩:=hr
   rw[D6]
   simp only[fb] at h
   exact cW (hk (σ.O t)) (h _) ho
 | .call f aD k,a,S,Q,σ,hr,h,ho=>by
   obtain⟨k0,rfl,hk⟩:=hr
   rw[MY]
   simp only[fb] at h
   obtain⟨res,he,h⟩:=h
   exact⟨res,he,cW (hk res) h ho⟩
 | .bU p k,a,S,Q,σ,hr,h,ho=>cW (hr h.1) h.2 ho
 | .ex α p k,a,S,Q,σ,hr,h,ho=>by
   simp only[fb] at h
   obtain⟨x,hx,h⟩:=h
   exact cW (hr x hx) h ho
 | .ite b x y,a,S,Q,σ,hr,h,ho=>by
   simp only[fb] at h
   simp only[Ref] at hr
   cases b with
   | true=>exact cW (hr.1 rfl) (h.1 rfl) ho
   | false=>exact cW (hr.2 rfl) (h.2 rfl) ho
 | .alt x y,a,S,Q,σ,hr,h,ho=>by
   simp only[fb] at h
   rcases h with h| h
   ·exact cW hr.1 h ho
   ·exact cW hr.2 h ho
 | .all k,a,S,Q,σ,hr,h,ho=>by
   obtain⟨n,hr⟩:=hr
   exact cW hr (h n) ho
 | .Xg b,a,S,Q,σ,hr,h,ho=>by
   simp only[Ref] at hr
   subst hr
   exact h.h σ ho
end Go.AM
namespace Go.AM
def nth {α:Type}:List α→Nat→Option α
 | [],_=>none
 | x::_,0=>some x
 | _::l,n+1=>nth l n
theorem G6 {α:Type}: ∀ (l:List α) (n:Nat),nth l n=l[n]?
 | [],_=>by simp[nth]
 | _::_,0=>by simp[nth]
 | _::l,n+1=>by simp[nth,G6 l n]
def force {α:Type} {β:Type 1}:List α→(List α→β)→β
 | [],k=>k []
 | x::l,k=>force l fun l'=>k (x::l')
theorem force_eq {α:Type} {β:Type 1}: ∀ (l:List α) (k:List α→β),force l k=k l
 | [],_=>rfl
 | _::l,k=>by simp only[force,force_eq l]
def Ct {α:Type}:List α→Nat→α→List α
 | [],_,_=> []
 | _::l,0,y=>y::l
 | x::l,n+1,y=>x::Ct l n y
theorem xz {α:Type}: ∀ (l:List α) (n:Nat) (y:α),Ct l n y=l.set n y
 | [],_,_=>by simp[Ct]
 | _::_,0,_=>by simp[Ct]
 | _::l,n+1,y=>by simp[Ct,xz l n y]
def gX {α:Type}:List α→Nat→Bool
 | [],0=>true
 | _::l,n+1=>gX l n
 | _,_=>false
theorem nc {α:Type}: ∀ {l:List α} {n:Nat},gX l n=true→l.length=n
 | [],0,_=>rfl
 | _::l,n+1,h=>by simp only[gX] at h;simp[nc h]
 | [],_+1,h=>by simp[gX] at h
 | _::_,0,h=>by simp[gX] at h
def iE {α:Type}:List α→Nat→Bool
 | _,0=>true
 | _::l,n+1=>iE l n
 | [],_+1=>false
theorem ng {α:Type}: ∀ {l:List α} {n:Nat},iE l n=true→n≤l.length
 | _,0,_=>agI _
 | _::l,n+1,h=>by simp only[iE] at h;simpa using ng h
 | [],_+1,h=>by simp[iE] at h
def takeN {α:Type}:List α→Nat→List α
 | _,0=> []
 | x::l,n+1=>x::takeN l n
 | [],_+1=> []
theorem sY {α:Type}: ∀ (l:List α) (n:Nat),takeN l n=l.take n
 | _,0=>by simp[takeN]
 | _::l,n+1=>by simp[takeN,sY l n]
 | [],_+1=>by simp[takeN]
def rp {α:Type}:List α→Nat→List α
 | l,0=>l
 | _::l,n+1=>rp l n
 | [],_+1=> []
theorem sZ {α:Type}: ∀ (l:List α) (n:Nat),rp l n=l.drop n
 | _,0=>by simp[rp]
 | _::l,n+1=>by simp[rp,sZ l n]
 | [],_+1=>by simp[rp]
def mN (v:V) (sz:Nat):Bool:=match v with
 | .agg cs=>gX cs sz
 | v=>V.aR v &&Nat.beq sz 1
theorem ni {v:V} {sz:Nat} (h:mN v sz=true):aU v sz=true:=by
 unfold mN at h
 split at h
 ·simp[aU,V.cells,V.da,V.isAgg,nc h]
 ·rename_i hn
  simp only[af2] at h
  have h1:sz=1:=agx h.2
  have h2:v.cells=[v]:=by cases v<;>simp_all[V.cells]
  simp[aU,V.da,h2,h1,h.1]
def yh (agg:Bool) (off sz:Nat) (e:V):Option V:=
 match agg with
 | true=>match e with
   | .agg cs=>bif Nat.beq off 0 &&gX cs sz then some e else bif iE cs (off+sz) then some (.agg (takeN (rp cs off) sz)) else none
   | _=>none
 | false=>match e with
   | .agg cs=>nth cs off
   | v=>bif V.aR v &&Nat.beq off 0 then some v else none
theorem nj {agg:Bool} {off sz:Nat} {e v:V} (h:yh agg off sz e=some v):AM.part agg off sz e=some v:=by
 cases agg with
 | true=>
   simp only[yh] at h
   cases e with
   | agg cs=>
     simp only at h
     cases hb: (Nat.beq off 0 &&gX cs sz) with
     | true=>
       simp only[hb,cond_true,afY] at h
       subst h
       simp only[af2] at hb
       have h1:off=0:=agx hb.1
       have h2:=nc hb.2
       simp[AM.part,h1,←h2]
     | false=>
       simp only[hb,cond_false] at h
       cases hc:iE cs (off+sz) with
       | true=>
         simp only[hc,cond_true,afY] at h
         subst h
         simp[AM.part,sY,sZ,ng hc]
       | false=>simp[hc] at h
   | _=>simp at h
 | false=>
   simp only[yh] at h
   cases e with
   | agg cs=>simp only[G6] at h;simpa [AM.part] using h
   | _=>
     simp only[V.aR,ahz,Bool.false_and,cond_false] at h
     first
     | (simp at h;done)
     | (cases hb:Nat.beq off 0 with
        | true=>simp only[hb,cond_true] at h;have h1:=agx hb;simp[AM.part,h1,V.aR];simpa using h
        | false=>simp[hb] at h)
def jT (agg:Bool) (off sz:Nat) (e v:V):Option V:=
 match agg with
 | true=>match e,v with
   | .agg cs,.agg vs=>bif gX vs sz then(bif Nat.beq off 0 &&gX cs sz then some v else bif iE cs (off+sz) then some (.agg (takeN cs off++(vs++rp cs (off+sz)))) else none) else none
   | _,_=>none
 | false=>bif V.aR v &&Nat.beq sz 1 then match e with
    | .agg cs=>bif iE cs (off+1) then some (.agg (Ct cs off v)) else none
    | e=>bif V.aR e &&Nat.beq off 0 then some v else none
   else none
theorem vW {agg:Bool} {off sz:Nat} {e v x:V} (h:jT agg off sz e v=some x):kr agg off sz e v=some x:=by
 cases agg with
 | true=>
   simp only[jT] at h
   split at h
   · rename_i cs vs
     cases h1:gX vs sz with
     | false=>simp[h1] at h
     | true=>
       have Ee:=nc h1
       simp only[h1,cond_true] at h
       cases hb: (Nat.beq off 0 &&gX cs sz) with
       | true=>
         simp only[hb,cond_true,afY] at h
         subst h
         simp only[af2] at hb
         have h3:off=0:=agx hb.1
         have h2:=nc hb.2
         subst h3
         simp[kr,Ee,h2]
       | false=>
         simp only[hb,cond_false] at h
         cases hc:iE cs (off+sz) with
         | true=>
           simp only[hc,cond_true,afY] at h
           subst h
           simp[kr,sY,sZ,ng hc,Ee]
         | false=>simp[hc] at h
   ·simp at h
 | false=>
   simp only[jT] at h
   cases hb: (V.aR v &&Nat.beq sz 1) with
   | false=>simp[hb] at h
   | true=>
     simp only[hb,cond_true] at h
     simp only[af2] at hb
     have h1:sz=1:=agx hb.2
     split at h
     · rename_i cs
       cases hc:iE cs (off+1) with
       | false=>simp[hc] at h
       | true=>
         simp only[hc,cond_true,afY] at h
         subst h
         have:=ng hc
         simp[kr,hb.1,h1,xz];omega
     · rename_i hn
       cases hc: (V.aR e &&Nat.beq off 0) with
       | false=>simp[hc] at h
       | true=>
         simp only[hc,cond_true,afY] at h
         subst h
         simp only[af2] at hc
         have h3:off=0:=agx hc.2
         cases e<;>simp_all[kr,V.aR]
def la:Option V→bD
 | some v=> .done v
 | none=> .fail
def o8 (agg:Bool) (off sz:Nat) (e:V):bD:=
 match agg with
 | true=>match e with
   | .agg cs=>bif Nat.beq off 0 &&gX cs sz then .done e else bif iE cs (off+sz) then force (takeN (rp cs off) sz) fun l=> .done (.agg l) else .fail
   | _=> .fail
 | false=>match e with
   | .agg cs=>la (nth cs off)
   | v=>bif V.aR v &&Nat.beq off 0 then .done v else .fail
theorem s6 {agg:Bool} {off sz:Nat} {e:V}:o8 agg off sz e=la (yh agg off sz e):=by
 unfold o8 yh
 cases agg with
 | true=>
   cases e with
   | agg cs=>
     simp only
     cases hb: (Nat.beq off 0 &&gX cs sz) with
     | true=>rfl
     | false=>
       simp only[cond_false]
       cases hc:iE cs (off+sz) with
       | true=>simp only[cond_true,force_eq];rfl
       | false=>rfl
   | _=>rfl
 | false=>
   cases e with
   | agg cs=>rfl
   | _=>simp only;cases hb:Nat.beq off 0 <;>simp[V.aR,la]
def Na (agg:Bool) (off sz:Nat) (e v:V) (k:V→bD):bD:=
 match agg with
 | true=>match e,v with
   | .agg cs,.agg vs=>bif gX vs sz then(bif Nat.beq off 0 &&gX cs sz then k v else bif iE cs (off+sz) then force (takeN cs off++(vs++rp cs (off+sz))) fun l=>k (.agg l) else .fail) else .fail
   | _,_=> .fail
 | false=>bif V.aR v &&Nat.beq sz 1 then match e with
    | .agg cs=>bif iE cs (off+1) then force (Ct cs off v) fun l=>k (.agg l) else .fail
    | e=>bif V.aR e &&Nat.beq off 0 then k v else .fail
   else .fail
theorem Ry {agg:Bool} {off sz:Nat} {e v:V} {k:V→bD}:Na agg off sz e v k=match jT agg off sz e v with
   | some x=>k x
   | none=> .fail:=by
 unfold Na jT
 cases agg with
 | true=>
   simp only
   split
   · rename_i cs vs
     cases gX vs sz with
     | false=>rfl
     | true=>
       simp only[cond_true]
       cases (Nat.beq off 0 &&gX cs sz) with
       | true=>rfl
       | false=>
         simp only[cond_false]
         cases iE cs (off+sz) with
         | true=>simp only[cond_true,force_eq]
         | false=>rfl
   ·rfl
 | false=>
   simp only
   cases (V.aR v &&Nat.beq sz 1) with
   | false=>rfl
   | true=>
     simp only[cond_true]
     split
     · rename_i cs
       cases iE cs (off+1) with
       | true=>simp only[cond_true,force_eq]
       | false=>rfl
     ·cases (V.aR e &&Nat.beq off 0) <;>rfl
def gH (x:aT) (k:V→bD):bD:=match x with
 | .tmp t=> .mY t k
 | .const v=>k v
theorem Ref.ev {x:aT} {k:V→bD} {k0:V→Act} (h: ∀v,Ref (k v) (k0 v)):Ref (gH x k) (AM.ev x k0):=by
 cases x with
 | tmp t=>exact⟨k0,rfl,h⟩
 | const v=>exact h v
def Ef:List aT→(List V→bD)→bD
 | [],k=>k []
 | x::xs,k=>gH x fun v=>Ef xs fun vs=>k (v::vs)
theorem Ref.evs: ∀ {xs:List aT} {k:List V→bD} {k0:List V→Act},(∀v,Ref (k v) (k0 v))→Ref (Ef xs k) (AM.evs xs k0)
 | [],_,_,h=>h []
 | x::xs,_,_,h=>Ref.ev fun v=>Ref.evs fun vs=>h (v::vs)
def Rz:Option aT→(Option V→bD)→bD
 | none,k=>k none
 | some x,k=>gH x fun v=>k (some v)
theorem Ref.Mw {x:Option aT} {k:Option V→bD} {k0:Option V→Act} (h: ∀v,Ref (k v) (k0 v)):Ref (Rz x k) (AM.Mw x k0):=by
 cases x with
 | none=>exact h none
 | some x=>exact Ref.ev fun v=>h (some v)
theorem Ref.eC {o o0:Option V} (h: ∀v,o=some v→o0=some v):Ref (la o) (AM.eC o0):=by
 cases o with
 | none=>trivial
 | some v=>rw[h v rfl];exact rfl
theorem Ref.gI {o:Option V}:Ref (la o) (AM.eC o):=Ref.eC fun _ h=>h
theorem Ref.fail {a:Act}:Ref .fail a:=trivial
theorem Ref.done {v:V}:Ref (.done v) (.done v):=rfl
def yi (c:V) (k:V→bD):bD:=
 match c with
 | .sl r g off len=> .bP r fun ⟨bZ,fN,db,iN,gY⟩=>match gY with
   | some es=> .ex (List V) (fun ys=>aF es off len=ys) fun ys=> .bU (bZ=g∧db=true∧off+len≤es.length∧V.ak ys=true) (.bM r ⟨bZ,fN,db,true,gY⟩ (k (.lit fN ys)))
   | none=> .fail
 | .mp r g=> .bP r fun ⟨bZ,fN,db,iN,gY⟩=>match gY with
   | some es=> .ex (List V) (fun ys=>es=ys) fun ys=> .bU (bZ=g∧fN=0∧V.ak ys=true∧ys.all V.isTuple=true) (.bM r ⟨bZ,fN,db,true,gY⟩ (k (.mlit ys)))
   | none=> .fail
 | .own .. | .msl .. | .mptr .. | .any| .it .. => .fail
 | c=>k c
theorem Ref.iP {c:V} {k:V→bD} {k0:V→Act} (h: ∀v,Ref (k v) (k0 v)):Ref (yi c k) (AM.iP c k0):=by
 cases c
 case sl r g off len=>
  refine⟨_,rfl,fun ⟨gen,sz,arr,fz,es⟩=> ?_⟩
  cases es with
  | none=>trivial
  | some es=>
    rintro ys rfl hc
    simp only[hc,and_self,if_true]
    refine⟨_,by simp[hc],h _⟩
 case mp r g=>
  refine⟨_,rfl,fun ⟨gen,sz,arr,fz,es⟩=> ?_⟩
  cases es with
  | none=>trivial
  | some es=>
    rintro ys rfl hc
    simp only[hc,and_self,if_true]
    refine⟨_,by simp[hc],h _⟩
 all_goals first| exact h _| trivial
def Cu (b:Bool) (c:V) (k:V→bD):bD:=
 match b,c with
 | true,.ptr r g 0 off=> .bP r fun ⟨bZ,fN,db,iN,gY⟩=>match gY with
   | some [e]=> .bU (bZ=g∧0 <fN∧V.au e=true) (.bM r ⟨bZ,fN,db,true,gY⟩ (k (.eptr e off)))
   | _=> .fail
 | _,c=>k c
theorem Ref.rY {b:Bool} {c:V} {k:V→bD} {k0:V→Act} (h: ∀v,Ref (k v) (k0 v)):Ref (Cu b c k) (AM.rY b c k0):=by
 unfold Cu AM.rY
 split
 ·refine⟨_,rfl,fun ⟨gen,sz,arr,fz,es⟩=> ?_⟩
  dsimp only
  split
  ·intro hc
   simp only[hc,and_self,if_true]
   refine⟨_,by simp[hc],h _⟩
  ·trivial
 ·split
  ·rename_i hx
   exact absurd rfl (hx _ _ _ rfl)
  ·exact h _
def yj:List (Bool×aT)→(List V→bD)→bD
 | [],k=>k []
 | (b,x)::xs,k=>gH x fun c=>Cu b c fun c'=>yj xs fun cs=>k (c'::cs)
theorem Ref.ku: ∀ {xs:List (Bool×aT)} {k:List V→bD} {k0:List V→Act},(∀v,Ref (k v) (k0 v))→Ref (yj xs k) (AM.ku xs k0)
 | [],_,_,h=>h []
 | (_,_)::_,_,_,h=>Ref.ev fun _=>Ref.rY fun v=>Ref.ku fun vs=>h (v::vs)
def uX:List V→(List V→bD)→bD
 | [],k=>k []
 | c::cs,k=>yi c fun c'=>uX cs fun cP=>k (c'::cP)
theorem Ref.lf: ∀ {cs:List V} {k:List V→bD} {k0:List V→Act},(∀v,Ref (k v) (k0 v))→Ref (uX cs k) (AM.lf cs k0)
 | [],_,_,h=>h []
 | _::_,_,_,h=>Ref.iP fun v=>Ref.lf fun vs=>h (v::vs)
def As (v:V) (k:V→bD):bD:=
 bif V.au v then k v else
 match v with
 | .agg cs=>uX cs fun cP=>k (.agg cP)
 | v=>yi v k
theorem Ref.A0 {v:V} {k:V→bD} {k0:V→Act} (h: ∀v,Ref (k v) (k0 v)):Ref (As v k) (AM.A0 v k0):=by
 unfold As AM.A0
 cases hp:V.au v with
 | true=>simpa using h v
 | false=>
   simp only[cond_false,aga,if_false]
   cases v
   case agg cs=>exact Ref.lf fun cP=>h _
   all_goals exact Ref.iP h
def Jf (vs:List V) (k:List V→bD):bD:=
 .alt (.bU (V.ak vs=true) (k vs)) (match vs with
  | [v]=>As v fun v'=>k [v']
  | _=> .fail)
theorem Ref.mM {vs:List V} {k:List V→bD} {k0:List V→Act} (h: ∀v,Ref (k v) (k0 v)):Ref (Jf vs k) (AM.mM vs k0):=by
 unfold Jf
 refine⟨?_,?_⟩
 ·intro hp
  simp only[AM.mM,hp,if_true]
  exact h _
 ·split
  ·rename_i v
   unfold AM.mM
   by_cases hp:V.ak [v]=true
   ·rw[if_pos hp]
    have h1:V.au v=true:=by simpa [V.ak] using hp
    unfold As
    simp only[h1,cond_true];exact h _
   ·rw[if_neg hp]
    simp only[AM.mM.go]
    exact Ref.A0 fun v'=>h _
  ·trivial
end Go.AM
namespace Go.AM
def Cv (f:V→(V→List Nat→bD)→bD):List V→(List V→List Nat→bD)→bD
 | [],k=>k [] []
 | c::cs,k=>f c fun c' r=>Cv f cs fun cP rs=>k (c'::cP) (r++rs)
theorem Ref.rq {f:V→(V→List Nat→bD)→bD} {f0:V→(V→List Nat→Act)→Act} (hf: ∀c k k0,(∀v rs,Ref (k v rs) (k0 v rs))→Ref (f c k) (f0 c k0)):
  ∀ {cs:List V} {k:List V→List Nat→bD} {k0:List V→List Nat→Act},(∀v rs,Ref (k v rs) (k0 v rs))→Ref (Cv f cs k) (AM.rq f0 cs k0)
 | [],_,_,h=>h _ _
 | _::_,_,_,h=>hf _ _ _ fun v rs=>Ref.rq hf fun vs rs'=>h _ _
def fL:Nat→V→(V→List Nat→bD)→bD
 | 0,v,k=> .bU (V.au v=true) (k v [])
 | d+1,v,k=>bif V.au v then k v [] else
   match v with
   | .agg cs=>Cv (fL d) cs fun cP rs=>k (.agg cP) rs
   | .fn f cs=>Cv (fL d) cs fun cP rs=>k (.fn f cP) rs
   | .iface t x=>fL d x fun x' rs=>k (.iface t x') rs
   | .sl r g off len=> .bP r fun ⟨bZ,fN,db,iN,gY⟩=>match gY with
     | some es=> .ex (List V) (fun ys=>aF es off len=ys) fun ys=> .bU (bZ=g∧db=true∧off+len≤es.length∧V.ak ys=true) (k (.lit fN ys) [r])
     | none=> .fail
   | .ptr r g idx off=> .bP r fun ⟨bZ,fN,db,iN,gY⟩=>match gY with
     | some es=> .bU (bZ=g) (match es with
       | [e]=> (match idx with| 0=>fL d e fun e' rs=>k (.eptr e' off) (r::rs) | _+1=> .fail)
       | es=> .ex V (fun e=>es[idx]? =some e) fun e=>fL d e fun e' rs=>k (.eptr e' off) (r::rs))
     | none=> .fail
   | _=> .fail
theorem Ref.fY: ∀ {d:Nat} {v:V} {k:V→List Nat→bD} {k0:V→List Nat→Act},(∀v rs,Ref (k v rs) (k0 v rs))→Ref (fL d v k) (AM.fY d v k0)
 | 0,v,k,k0,h=>by
   intro hp
   simp only[AM.fY,hp,if_true]
   exact h _ _
 | d+1,v,k,k0,h=>by
   unfold fL AM.fY
   cases hp:V.au v with
   | true=>simpa using h v []
   | false=>
     simp only[cond_false,aga,if_false]
     cases v
     case agg cs=>exact Ref.rq (f:=fL d) (f0:=AM.fY d) (fun c k k0 h=>Ref.fY h) fun cP rs=>h _ _
     case fn f cs=>exact Ref.rq (f:=fL d) (f0:=AM.fY d) (fun c k k0 h=>Ref.fY h) fun cP rs=>h _ _
     case iface t x=>exact Ref.fY fun x' rs=>h _ _
     case sl r g off len=>
      refine⟨_,rfl,fun ⟨gen,sz,arr,fz,es⟩=> ?_⟩
      cases es with
      | none=>trivial
      | some es=>
        rintro ys rfl hc
        try simp only at hc
        simp only[hc,and_self,if_true,xA]
        exact h _ _
     case ptr r g idx off=>
      refine⟨_,rfl,fun ⟨gen,sz,arr,fz,es⟩=> ?_⟩
      cases es with
      | none=>trivial
      | some es=>
        intro hc
        try simp only at hc
        simp only[hc,if_true]
        split
        ·  rename_i e
           cases idx with
           | zero=>exact Ref.fY fun e' rs=>h _ _
           | succ n=>trivial
        ·  intro e he
           simp only[he]
           exact Ref.fY fun e' rs=>h _ _
     all_goals trivial
def dA (   r0:Nat):List V→List (Option Nat)→Nat→(List V→List Nat→List eh→bD)→bD
 | [],_,_,k=>k [] [] []
 | v::vs,m::ms,i,k=>
   match m with
   | some sz=>match v with
     | .nils=> .bU (0 <sz) (dA r0 vs ms (i+1) fun aD rs ws=>k (.msl sz [] 0 0::aD) rs (⟨i,r0+i,some sz⟩::ws))
     | .sl r g off len=> .bP r fun ⟨bZ,fN,db,iN,gY⟩=>match gY with
       | some es=> .bU (bZ=g∧iN=false∧fN=sz∧off+len≤es.length∧V.ak es=true)
          (dA r0 vs ms (i+1) fun aD rs ws=>k (.msl sz es off len::aD) rs (⟨i,r,none⟩::ws))
       | none=> .fail
     | .ptr r g idx off=> .bP r fun ⟨bZ,fN,db,iN,gY⟩=>match gY with
       | some es=> .bU (bZ=g∧iN=false∧fN=sz∧V.ak es=true)
          (dA r0 vs ms (i+1) fun aD rs ws=>k (.mptr sz es idx off::aD) rs (⟨i,r,none⟩::ws))
       | none=> .fail
     | _=> .fail
   | none=>fL 5 v fun v' rs=>dA r0 vs ms (i+1) fun aD rs' ws=>k (v'::aD) (rs++rs') ws
 | v::vs,[],i,k=>fL 5 v fun v' rs=>dA r0 vs [] (i+1) fun aD rs' ws=>k (v'::aD) (rs++rs') ws
theorem Ref.dG {r0:Nat}: ∀ {vs:List V} {ms:List (Option Nat)} {i:Nat} {k:List V→List Nat→List eh→bD} {k0:List V→List Nat→List eh→Act},
   (∀a b c,Ref (k a b c) (k0 a b c))→Ref (dA r0 vs ms i k) (AM.dG r0 vs ms i k0)
 | [],_,_,_,_,h=>h _ _ _
 | v::vs,[],i,k,k0,h=>Ref.fY fun v' rs=>Ref.dG fun a b c=>h _ _ _
 | v::vs,none::ms,i,k,k0,h=>Ref.fY fun v' rs=>Ref.dG fun a b c=>h _ _ _
 | v::vs,some sz::ms,i,k,k0,h=>by
   unfold dA AM.dG
   cases v
   case nils=>
    intro hc
    simp only[hc,if_true]
    exact Ref.dG fun a b c=>h _ _ _
   case sl r g off len=>
    refine⟨_,rfl,fun ⟨gen,sz,arr,fz,es⟩=> ?_⟩
    cases es with
    | none=>trivial
    | some es=>
      intro hc
      try simp only at hc
      simp only[hc,and_self,if_true]
      exact Ref.dG fun a b c=>h _ _ _
   case ptr r g idx off=>
    refine⟨_,rfl,fun ⟨gen,sz,arr,fz,es⟩=> ?_⟩
    cases es with
    | none=>trivial
    | some es=>
      intro hc
      try simp only at hc
      simp only[hc,and_self,if_true]
      exact Ref.dG fun a b c=>h _ _ _
   all_goals trivial
def nS:List Nat→bD→bD
 | [],k=>k
 | r::rs,k=> .bP r fun ⟨bZ,fN,db,iN,gY⟩=> .bM r ⟨bZ,fN,db,true,gY⟩ (nS rs k)
theorem Ref.dP: ∀ {rs:List Nat} {k:bD} {k0:Act},Ref k k0→Ref (nS rs k) (AM.dP rs k0)
 | [],_,_,h=>h
 | _::_,_,_,h=> ⟨_,rfl,fun ⟨_,_,_,_,_⟩=> ⟨_,rfl,Ref.dP h⟩⟩
def iQ:List eh→List (Nat×List V)→(List (Nat×Nat×Nat)→bD)→bD
 | [],[],k=>k []
 | ⟨i,r,fresh⟩::ws,(bump,es)::outs,k=> .bP r fun ⟨bZ,fN,db,iN,gY⟩=>match fresh with
   | none=> .bM r ⟨bZ+bump,fN,db,iN,some es⟩ (iQ ws outs fun gs=>k ((i,r,bZ+bump)::gs))
   | some sz=> .bM r {gen:=bZ+1,sz,arr:=true,fz:=false,es:=some es} (iQ ws outs fun gs=>k ((i,r,bZ+1)::gs))
 | _,_,_=> .fail
theorem Ref.fe: ∀ {ws:List eh} {outs:List (Nat×List V)} {k:List (Nat×Nat×Nat)→bD} {k0:List (Nat×Nat×Nat)→Act},(∀g,Ref (k g) (k0 g))→Ref (iQ ws outs k) (AM.fe ws outs k0)
 | [],[],_,_,h=>h _
 | [],_::_,_,_,_=>trivial
 | _::_,[],_,_,_=>trivial
 | ⟨i,r,fresh⟩::ws,(bump,es)::outs,k,k0,h=>by
   refine⟨_,rfl,fun ⟨gen,sz,arr,fz,es'⟩=> ?_⟩
   cases fresh with
   | none=>exact⟨_,rfl,Ref.fe fun g=>h _⟩
   | some sz=>exact⟨_,rfl,Ref.fe fun g=>h _⟩
theorem Ref.bif {b:Bool} {x:bD} {a:Act} (h:Ref x a):Ref (bif b then x else .fail) (if b=true then a else .fail):=by
 cases b with
 | true=>simpa using h
 | false=>trivial
def mg (bA:Bool) (r:Nat) (gs:List (Nat×Nat×Nat)) (c:V) (k:V→bD):bD:=
 match c with
 | .own sz xs=> (match bA with
   | true=> .sX r fun g=> .bM r {gen:=g,sz,arr:=true,fz:=false,es:=some xs} (k (.sl r g 0 xs.length))
   | false=>k (.lit sz xs))
 | .sl i _ off len=>match nT i gs with
   | some (r',g')=>k (.sl r' g' off len)
   | none=> .fail
 | c=>bif V.au c then k c else .fail
theorem Ref.dz {bA:Bool} {r:Nat} {gs:List (Nat×Nat×Nat)} {c:V} {k:V→bD} {k0:V→Act} (h: ∀v,Ref (k v) (k0 v)):Ref (mg bA r gs c k) (AM.dz bA r gs c k0):=by
 unfold mg AM.dz
 cases c
 case own sz xs=>
  cases bA with
  | true=>exact⟨_,rfl,fun o=> ⟨_,rfl,h _⟩⟩
  | false=>exact h _
 case sl i g off len=>
  simp only
  cases nT i gs with
  | none=>trivial
  | some p=>exact h _
 all_goals exact Ref.bif (h _)
def nU (bA:Bool):Nat→List (Nat×Nat×Nat)→List V→(List V→bD)→bD
 | _,_,[],k=>k []
 | r,gs,c::cs,k=>mg bA r gs c fun c'=>nU bA (r+1) gs cs fun cP=>k (c'::cP)
theorem Ref.eW {bA:Bool}: ∀ {cs:List V} {r:Nat} {gs:List (Nat×Nat×Nat)} {k:List V→bD} {k0:List V→Act},(∀v,Ref (k v) (k0 v))→Ref (nU bA r gs cs k) (AM.eW bA r gs cs k0)
 | [],_,_,_,_,h=>h _
 | _::_,_,_,_,_,h=>Ref.dz fun c'=>Ref.eW fun cP=>h _
def s7 (bA:Bool) (r:Nat) (gs:List (Nat×Nat×Nat)) (v:V) (k:V→bD):bD:=
 bif V.au v then k v else
 match v with
 | .agg cs=>nU bA r gs cs fun cP=>k (.agg cP)
 | v=>mg bA r gs v k
theorem Ref.jJ {bA:Bool} {r:Nat} {gs:List (Nat×Nat×Nat)} {v:V} {k:V→bD} {k0:V→Act} (h: ∀v,Ref (k v) (k0 v)):Ref (s7 bA r gs v k) (AM.jJ bA r gs v k0):=by
 unfold s7 AM.jJ
 cases hp:V.au v with
 | true=>simpa using h v
 | false=>
   simp only[cond_false,aga,if_false]
   cases v
   case agg cs=>exact Ref.eW fun cP=>h _
   all_goals exact Ref.dz h
def uY (bA:Bool):Nat→List (Nat×Nat×Nat)→List V→(List V→bD)→bD
 | _,_,[],k=>k []
 | r,gs,v::vs,k=>s7 bA r gs v fun v'=>uY bA (r+8) gs vs fun vs'=>k (v'::vs')
theorem Ref.jU {bA:Bool}: ∀ {vs:List V} {r:Nat} {gs:List (Nat×Nat×Nat)} {k:List V→bD} {k0:List V→Act},(∀v,Ref (k v) (k0 v))→Ref (uY bA r gs vs k) (AM.jU bA r gs vs k0)
 | [],_,_,_,_,h=>h _
 | _::_,_,_,_,_,h=>Ref.jJ fun c'=>Ref.jU fun cP=>h _
def fg (bA:Bool) (r:Nat) (gs:List (Nat×Nat×Nat)) (v:V) (k:V→bD):bD:=
 bif V.au v then k v else
 match v with
 | .tuple vs=>uY bA r gs vs fun vs'=>k (.tuple vs')
 | v=>s7 bA r gs v k
theorem Ref.ej {bA:Bool} {r:Nat} {gs:List (Nat×Nat×Nat)} {v:V} {k:V→bD} {k0:V→Act} (h: ∀v,Ref (k v) (k0 v)):Ref (fg bA r gs v k) (AM.ej bA r gs v k0):=by
 unfold fg AM.ej
 cases hp:V.au v with
 | true=>simpa using h v
 | false=>
   simp only[cond_false,aga,if_false]
   cases v
   case tuple cs=>exact Ref.jU fun cP=>h _
   all_goals exact Ref.jJ h
def bC (E:Env) (f:Nat):List (Option Nat):=match E.fn f with
 | some af=>af.cL
 | none=> []
def kx (E:Env) (r:Nat) (bA:Bool) (f:Nat) (args:List V):bD:=
 dA ( r+8) args (bC E f) 0 fun aD rs ws=>
  .bU ((apart rs (ws.map (·.r)) &&distinct (ws.map (·.r)))=true) <| .call f aD fun ⟨val,outs⟩=>
   match rs with
   | []=>iQ ws outs fun gs=>fg bA r gs val .done
   | rs=>bif (V.isScalar val || uZ r bA val) &&outs.all (fun o=>V.bj o.2) then iQ ws outs fun gs=>fg bA r gs val .done
     else nS rs (iQ ws outs fun gs=>fg bA r gs val .done)
theorem Ref.lh {E:Env} {r:Nat} {bA:Bool} {f:Nat} {args:List V}:Ref (kx E r bA f args) (AM.lh E r bA f args):=by
 unfold kx AM.lh
 refine Ref.dG fun aD rs ws=> ?_
 intro hc
 simp only[hc,if_true]
 refine⟨_,rfl,fun ⟨val,outs⟩=> ?_⟩
 have hgo:Ref (iQ ws outs fun gs=>fg bA r gs val .done) (AM.fe ws outs fun gs=>AM.ej bA r gs val .done):=
   Ref.fe fun gs=>Ref.ej fun v=>rfl
 cases rs with
 | nil=>
   simp only[dP]
   split<;>exact hgo
 | cons a rs=>
   simp only
   cases hb: ((V.isScalar val || uZ r bA val) &&outs.all fun o=>V.bj o.2) with
   | true=>simp only[cond_true,if_true];exact hgo
   | false=>simp only[cond_false,aga,if_false];exact Ref.dP hgo
end Go.AM
namespace Go.AM
def yk (d:Nat) (o:Option V) (k:Nat→bD):bD:=match o with
 | none=>k d
 | some (.int _ n)=> .bU (0≤n) (k n.toNat)
 | some _=> .fail
theorem Ref.RA {d:Nat} {o:Option V} {k:Nat→bD} {a:Act} (h: ∀n,cK d o=some n→Ref (k n) a):Ref (yk d o k) a:=by
 unfold yk
 split
 ·exact h _ rfl
 ·rename_i K n
  intro h0
  exact h _ (by simp[cK,h0])
 ·trivial
def yl:List (Nat×Nat×aT)→(List (Nat×Nat×V)→bD)→bD
 | [],k=>k []
 | (off,sz,x)::ps,k=>gH x fun v=>yl ps fun vs=>k ((off,sz,v)::vs)
theorem Ref.mh: ∀ {ps:List (Nat×Nat×aT)} {k:List (Nat×Nat×V)→bD} {k0:List (Nat×Nat×V)→Act},(∀v,Ref (k v) (k0 v))→Ref (yl ps k) (AM.mh ps k0)
 | [],_,_,h=>h _
 | (_,_,_)::_,_,_,h=>Ref.ev fun v=>Ref.mh fun vs=>h _
def lj:List V→List (Nat×Nat×V)→Option (List V)
 | cs,[]=>some cs
 | cs,(off,sz,v)::rest=>bif mN v sz &&iE cs (off+sz) then lj (match v with
    | .agg vs=>takeN cs off++(vs++rp cs (off+sz))
    | v=>Ct cs off v) rest else none
theorem ru: ∀ {ps:List (Nat×Nat×V)} {cs out:List V},lj cs ps=some out→jq cs ps=some out
 | [],cs,out,h=>h
 | (off,sz,v)::rest,cs,out,h=>by
   simp only[lj] at h
   cases hb: (mN v sz &&iE cs (off+sz)) with
   | false=>simp[hb] at h
   | true=>
     simp only[hb,cond_true] at h
     simp only[af2] at hb
     have h1:=ni hb.1
     have h2:=ng hb.2
     simp only[aU,af2,beq_iff_eq] at h1
     simp only[jq]
     rw[if_pos ⟨h1.1,h2,h1.2⟩]
     have ih:=ru h
     rw[←ih]
     congr 1
     split
     ·rename_i vs
      simp[V.cells,sY,sZ]
     ·rename_i hn
      have h3:v.cells=[v]:=by cases v<;>simp_all[V.cells]
      have h4:sz=1:=by rw[h3] at h1;simpa using h1.1.symm
      subst h4
      rw[xz,h3]
      simp[List.set_eq_take_append_cons_drop,show off<cs.length by omega]
def ym:List (Nat×aT)→(List (Nat×V)→bD)→bD
 | [],k=>k []
 | (i,x)::ps,k=>gH x fun v=>As v fun v=>ym ps fun vs=>k ((i,v)::vs)
theorem Ref.jK: ∀ {ps:List (Nat×aT)} {k:List (Nat×V)→bD} {k0:List (Nat×V)→Act},(∀v,Ref (k v) (k0 v))→Ref (ym ps k) (AM.jK ps k0)
 | [],_,_,h=>h _
 | (_,_)::_,_,_,h=>Ref.ev fun v=>Ref.A0 fun v'=>Ref.jK fun vs=>h _
def s8 (sz:Nat):Nat→List (Nat×V)→Option (List V)
 | _,[]=>some []
 | i,(j,v)::rest=>bif Nat.beq i j &&mN v sz then(match s8 sz (i+1) rest with| some vs=>some (v::vs) | none=>none) else none
def ll (sz:Nat):List V→List (Nat×V)→Option (List V)
 | es,[]=>some es
 | es,(i,v)::rest=>bif iE es (i+1) &&mN v sz then ll sz (Ct es i v) rest else none
theorem rz {sz:Nat}: ∀ {ps:List (Nat×V)} {es out:List V},ll sz es ps=some out→dQ sz es ps=some out
 | [],cs,out,h=>h
 | (i,v)::rest,es,out,h=>by
   simp only[ll] at h
   cases hb: (iE es (i+1) &&mN v sz) with
   | false=>simp[hb] at h
   | true=>
     simp only[hb,cond_true] at h
     simp only[af2] at hb
     have h1:=ni hb.2
     have h2:=ng hb.1
     simp only[dQ]
     rw[if_pos ⟨ae0,h1⟩,←xz]
     exact rz h
theorem yn {sz:Nat}: ∀ {ps:List (Nat×V)} {i:Nat} {vs pre es:List V},s8 sz i ps=some vs→pre.length=i→es.length=ps.length→dQ sz (pre++es) ps=some (pre++vs)
 | [],i,vs,pre,es,h,hp,he=>by
   simp only[s8,afY] at h
   subst h
   have:es=[]:=by simpa using he
   simp[dQ,this]
 | (j,v)::rest,i,vs,pre,es,h,hp,he=>by
   simp only[s8] at h
   cases hb: (Nat.beq i j &&mN v sz) with
   | false=>simp[hb] at h
   | true=>
     simp only[hb,cond_true] at h
     simp only[af2] at hb
     have h1:=ni hb.2
     have h2:i=j:=agx hb.1
     subst h2
     split at h
     ·rename_i vs' hv
      simp only[afY] at h
      subst h
      cases es with
      | nil=>simp at he
      | cons e es=>
        simp only[dQ]
        rw[if_pos ⟨by simp;omega,h1⟩]
        have: (pre++e::es).set i v=(pre++[v])++es:=by
         simp[List.set_append,hp]
        rw[this,yn hv (by simp[hp]) (by simpa using he)]
        simp
     ·simp at h
def s9 (sz:Nat) (x:V) (k:List V→bD):bD:=
 match x with
 | .nils=>k []
 | .lit sz' xs=>bif Nat.beq sz' sz then k xs else .fail
 | .sl r g off len=> .bP r fun ⟨bZ,fN,db,iN,gY⟩=>match gY with
   | some es=> .ex (List V) (fun ys=>aF es off len=ys) fun ys=> .bU (bZ=g∧fN=sz∧off+len≤es.length) (k ys)
   | none=> .fail
 | .str s=>bif Nat.beq sz 1 then k (s.map fun b=> .int .u8 b.toNat) else .fail
 | _=> .fail
theorem Ref.content {sz:Nat} {x:V} {k:List V→bD} {k0:List V→Act} (h: ∀v,Ref (k v) (k0 v)):Ref (s9 sz x k) (AM.content sz x k0):=by
 unfold s9 AM.content
 cases x
 case nils=>exact h _
 case lit sz' xs=>
  cases hb:Nat.beq sz' sz with
  | true=>obtain rfl:=agx hb;simp only[if_true,hb,cond_true];exact h _
  | false=>simp only[hb,cond_false];trivial
 case str s=>
  cases hb:Nat.beq sz 1 with
  | true=>obtain rfl:=agx hb;simp only[if_true,hb,cond_true];exact h _
  | false=>simp only[hb,cond_false];trivial
 case sl r g off len=>
  refine⟨_,rfl,fun ⟨gen,sz,arr,fz,es⟩=> ?_⟩
  cases es with
  | none=>trivial
  | some es=>
    rintro ys rfl hc
    try simp only at hc
    simp only[hc,and_self,if_true]
    exact h _
 all_goals trivial
def Cw ( r sz lim:Nat) (s:V) (ys:List V):bD:=
 .bU (ys.all (aU · sz)=true) <| bif Nat.ble 1 sz then
 match s with
 | .nils=>match ys with
   | [y]=> .bU (1≤lim) (.sX r fun g=> .bM r {gen:=g,sz,arr:=true,fz:=false,es:=some [y]} (.done (.sl r g 0 1)))
   | ys=> .ite ys.isEmpty (.done .nils) (.bU (ys.length≤lim) (.sX r fun g=> .bM r {gen:=g,sz,arr:=true,fz:=false,es:=some ys} (.done (.sl r g 0 ys.length))))
 | .lit sz' xs=> .bU (ys=[]) (.done (.lit sz' xs))
 | .sl r' g off len=> .bP r' fun ⟨bZ,fN,db,iN,gY⟩=>match gY with
   | some es=> .bU (bZ=g∧db=true∧iN=false∧fN=sz) <| .alt
      (.bU (off=0∧es.length=len∧len+ys.length≤lim) (.all fun g'=> .bM r' {gen:=g',sz,arr:=true,fz:=false,es:=some (es++ys)} (.done (.sl r' g' 0 (len+ys.length)))))
      (.bU (off+len≤es.length∧len+ys.length≤lim) (.ite (decide (off+len+ys.length≤es.length))
        (.bM r' ⟨bZ,fN,db,iN,some (overwrite es (off+len) ys)⟩ (.done (.sl r' g off (len+ys.length))))
        (.bM r' ⟨g+1,fN,db,iN,some (aF es off len++ys)⟩ (.done (.sl r' (g+1) 0 (len+ys.length))))))
   | none=> .fail
 | _=> .fail
 else .fail
theorem Ref.append {r sz lim:Nat} {s:V} {ys:List V}:Ref (Cw r sz lim s ys) (G1 r sz lim s ys):=by
 intro hy
 cases hb:Nat.ble 1 sz with
 | false=>simp only[cond_false];trivial
 | true=>
   have hs:0 <sz:=ahm hb
   have hg: (ys.all (aU · sz) &&decide (0 <sz))=true:=by simp only[af2,decide_eq_true_eq];exact⟨hy,hs⟩
   simp only[cond_true,G1,hg,if_true]
   cases s
   case nils=>
    simp only
    split
    · rename_i y
      intro hl
      simp only[List.isEmpty_cons,aga,if_false,agb,agi,agK,hl,if_true]
      exact⟨_,rfl,fun o=> ⟨_,rfl,rfl⟩⟩
    · refine⟨fun he=> ?_,fun he=> ?_⟩
      ·simp only[he,if_true];exact rfl
      ·  intro hl
         simp only[he,aga,if_false,hl,if_true]
         exact⟨_,rfl,fun o=> ⟨_,rfl,rfl⟩⟩
   case lit sz' xs=>
    intro he
    simp only[he,List.isEmpty_nil,if_true];exact rfl
   case sl r' g off len=>
    refine⟨_,rfl,fun ⟨gen,sz',arr,fz,es⟩=> ?_⟩
    cases es with
    | none=>trivial
    | some es=>
      intro hc
      obtain⟨rfl,rfl,rfl,rfl⟩:=hc
      refine⟨?_,?_⟩
      ·  rintro⟨rfl,rfl,hl⟩
         simp only[agK,af6,hl,and_self,if_true]
         by_cases hn:ys=[]
         ·subst hn
          refine⟨gen,?_⟩
          simp only[agJ,agi,ahk,af6,if_true,overwrite,ag9,List.drop_length]
          exact⟨_,rfl,rfl⟩
         ·have hp:0 <ys.length:=List.length_pos_iff.2 hn
          refine⟨gen+1,?_⟩
          rw[if_neg ae0]
          simp only[aF,List.drop_zero,ag9]
          exact⟨_,rfl,rfl⟩
      ·  rintro⟨h1,h2⟩
         simp only[h1,h2,and_self,if_true]
         refine⟨fun hd=> ?_,fun hd=> ?_⟩
         ·simp only[decide_eq_true_eq] at hd
          rw[if_pos hd]
          exact⟨_,rfl,rfl⟩
         ·simp only[decide_eq_false_iff_not] at hd
          rw[if_neg hd]
          exact⟨_,rfl,rfl⟩
   all_goals trivial
def US (op:BinOp) (x y:V):bD:=
 match x,y with
 | .int k a,.int k' b=>
   match op with
   | .shl=> .bU (0≤b) (.done (.int k (k.wrap (a*2 ^ (min b.toNat k.bits)))))
   | .shr=> .bU (0≤b) (.done (.int k (a.fdiv (2 ^ (min b.toNat k.bits)))))
   | .quo=> .bU (k=k'∧b≠0) (.done (.int k (k.wrap (a.tdiv b))))
   | .rem=> .bU (k=k'∧b≠0) (.done (.int k (a.tmod b)))
   | .and=> .bU (k=k') (la (mi .and k a b))
   | .or=> .bU (k=k') (la (mi .or k a b))
   | .xor=> .bU (k=k') (la (mi .xor k a b))
   | .andNot=> .bU (k=k') (la (mi .andNot k a b))
   | .add=>bif decide (k=k') then .done (.int k (k.wrap (a+b))) else .fail
   | .sub=>bif decide (k=k') then .done (.int k (k.wrap (a - b))) else .fail
   | .mul=>bif decide (k=k') then .done (.int k (k.wrap (a*b))) else .fail
   | .eql=>bif decide (k=k') then .done (.bool (decide (a=b))) else .fail
   | .neq=>bif decide (k=k') then .done (.bool (!decide (a=b))) else .fail
   | .lss=>bif decide (k=k') then .done (.bool (decide (a<b))) else .fail
   | .leq=>bif decide (k=k') then .done (.bool (decide (a≤b))) else .fail
   | .gtr=>bif decide (k=k') then .done (.bool (decide (b<a))) else .fail
   | .geq=>bif decide (k=k') then .done (.bool (decide (b≤a))) else .fail
 | .str a,.str b=>
   match op with
   | .add=> .bU (a.length+b.length≤9223372036854775807) (.done (.str (a++b)))
   | .eql=> .done (.bool (decide (a=b)))
   | .neq=> .done (.bool (!decide (a=b)))
   | .lss=> .done (.bool (Op.bytesLess a b))
   | .leq=> .done (.bool (Op.bytesLess a b || decide (a=b)))
   | .gtr=> .done (.bool (!(Op.bytesLess a b || decide (a=b))))
   | .geq=> .done (.bool (!Op.bytesLess a b))
   | _=> .fail
 | _,_=> .fail
theorem Ref.RB {b:Bool} {x:bD} {a:Act} (h:b=true→Ref x a):Ref (bif b then x else .fail) a:=by
 cases b with
 | true=>simpa using h rfl
 | false=>trivial
theorem Ref.bin {op:BinOp} {x y:V}:Ref (US op x y) (AM.eC (rZ op x y)):=by
 unfold US
 split
 ·rename_i k a k' b
  split
  case h_1=>intro h;simp[rZ,show ¬b< 0 by omega,AM.eC,Ref]
  case h_2=>intro h;simp[rZ,show ¬b< 0 by omega,AM.eC,Ref]
  case h_3=>intro h;simp[rZ,h.1,h.2,AM.eC,Ref]
  case h_4=>intro h;simp[rZ,h.1,h.2,AM.eC,Ref]
  case h_5=>intro h;simp only[rZ,h,if_true];exact Ref.gI
  case h_6=>intro h;simp only[rZ,h,if_true];exact Ref.gI
  case h_7=>intro h;simp only[rZ,h,if_true];exact Ref.gI
  case h_8=>intro h;simp only[rZ,h,if_true];exact Ref.gI
  all_goals exact Ref.RB fun h=>by simp only[decide_eq_true_eq] at h;simp[rZ,h,AM.eC,Ref,G7,xy,bne]
 ·rename_i a b
  split
  case h_1=>intro h;simp[rZ,h,AM.eC,Ref]
  case h_8=>trivial
  all_goals simp[rZ,AM.eC,Ref]
 ·trivial
def UT (neg:Bool) (a b:V):bD:=
 match a,b with
 | .nilp,.nilp=> .done (.bool (true !=neg))
 | .nilp,.eptr .. | .nilp,.epk .. | .eptr ..,.nilp| .epk ..,.nilp=> .done (.bool (false !=neg))
 | .epk i z _ 0,.epk i' z' _ 0=> .bU (z=z'∧0 <z) (.done (.bool ((i==i') !=neg)))
 | _,_=> .fail
theorem Ref.UU {neg:Bool} {a b:V}:Ref (UT neg a b) (AM.eC ((Jg a b).map fun c=> .bool (c !=neg))):=by
 unfold UT
 split
 all_goals first| exact rfl| trivial| skip
 intro h
 obtain⟨rfl,hz⟩:=h
 simp only[Jg,hz,and_self,if_true,agc]
 exact rfl
def UW (sz:Nat) (v i:V):bD:=
 match v,i with
 | .sl r g off len,.int _ n=> .bP r fun ⟨bZ,fN,db,iN,gY⟩=> .bU (0≤n∧n<len∧fN=sz∧bZ=g) (match off with
   | 0=> .done (.ptr r g n.toNat 0)
   | off=> .done (.ptr r g (off+n.toNat) 0))
 | .lit sz' xs,.int _ n=> .bU (0≤n∧sz'=sz) (.ex V (fun e=>xs[n.toNat]? =some e) fun e=> .done (.eptr e 0))
 | .litk sz' xs,.int _ n=> .bU (0≤n∧sz'=sz∧0 <sz) (.ex V (fun e=>xs[n.toNat]? =some e) fun e=> .done (.epk n.toNat sz e 0))
 | _,_=> .fail
theorem Ref.idx {sz:Nat} {v i:V}:Ref (UW sz v i) (Cq sz v i):=by
 unfold UW
 split
 ·refine⟨_,rfl,fun ⟨gen,sz',arr,fz,es⟩=> ?_⟩
  intro h
  try simp only at h
  simp only[h,and_self,if_true]
  split
  ·simp[Ref]
  ·exact rfl
 ·intro h e he
  simp only[Cq,h,and_self,if_true,he]
  exact rfl
 ·intro h e he
  obtain⟨h1,rfl,h3⟩:=h
  simp only[Cq,h1,h3,and_self,if_true,he]
  exact rfl
 ·trivial
def UX (sz:Nat) (v:V) (l h m:Option V):bD:=
 match m with
 | some mx=> (match v,h with
   | .sl r g off len,some hv=> .bP r fun ⟨bZ,fN,db,iN,gY⟩=>match gY with
     | some es=> .bU (bZ=g∧fN=sz) <| yk 0 l fun l=>yk len (some hv) fun h=>yk 0 (some mx) fun m=> .bU (l≤h∧h≤m∧off+m≤es.length∧m≠l) (.done .any)
     | none=> .fail
   | _,_=> .fail)
 | none=>match v with
   | .sl r g off len=> .bP r fun ⟨bZ,fN,db,iN,gY⟩=>match gY with
     | some es=> .bU (bZ=g∧fN=sz) <| yk 0 l fun l=>yk len h fun h=> .bU (l≤h∧off+h≤es.length) (.done (.sl r g (off+l) (h - l)))
     | none=> .fail
   | .lit sz' xs=> .bU (sz'=sz) <| yk 0 l fun l=>yk xs.length h fun h=> .bU (l≤h∧h≤xs.length) (.ex (List V) (fun ys=>aF xs l (h - l)=ys) fun ys=> .done (.lit sz ys))
   | .nils=>yk 0 l fun l=>yk 0 h fun h=> .bU (l≤h∧h≤0) (.done .nils)
   | _=> .fail
theorem Ref.slc {sz:Nat} {v:V} {l h m:Option V}:Ref (UX sz v l h m) (Cr sz v l h m):=by
 unfold UX
 split
 ·split
  ·rename_i mx _ _ r g off len hv
   refine⟨_,rfl,fun ⟨gen,sz',arr,fz,es⟩=> ?_⟩
   cases es with
   | none=>trivial
   | some es=>
     intro hc
     try simp only at hc
     simp only[hc,and_self,if_true]
     refine Ref.RA fun l' hl=>Ref.RA fun h' hh=>Ref.RA fun m' hm=> ?_
     intro hk
     simp only[hl,hh,hm,hk,and_self,if_true,if_false]
     exact rfl
  ·trivial
 ·split
  ·rename_i r g off len
   refine⟨_,rfl,fun ⟨gen,sz',arr,fz,es⟩=> ?_⟩
   cases es with
   | none=>trivial
   | some es=>
     intro hc
     try simp only at hc
     simp only[hc,and_self,if_true]
     refine Ref.RA fun l' hl=>Ref.RA fun h' hh=> ?_
     intro hk
     simp only[hl,hh,hk,and_self,if_true]
     exact rfl
  ·rename_i sz' xs
   intro hc
   refine Ref.RA fun l' hl=>Ref.RA fun h' hh=> ?_
   rintro hk ys rfl
   simp only[Cr,yc,hc,if_true,hl,hh,hk,and_self,AM.eC]
   exact rfl
  ·refine Ref.RA fun l' hl=>Ref.RA fun h' hh=> ?_
   intro hk
   have h1:cK 0 none=some 0:=rfl
   simp only[Cr,yc,hl,hh,h1,hk.1,hk.2,Option.isNone_none,AM.eC,af6,and_self,or_true,if_true]
   exact rfl
  ·trivial
def yo (agg:Bool) (sz r g idx off:Nat) (v:V):bD:=
 .bP r fun ⟨bZ,fN,db,iN,gY⟩=>match gY with
  | some es=> .bU (bZ=g∧iN=false) <| (match db with
    | true=> .ex V (fun e=>es[idx]? =some e) fun e=>Na agg off sz e v fun e'=> .bM r ⟨bZ,fN,db,iN,some (es.set idx e')⟩ (.done (.tuple []))
    | false=>match es,idx with
      | [e],0=>Na agg off sz e v fun e'=> .bM r ⟨bZ,fN,db,iN,some [e']⟩ (.done (.tuple []))
      | es,idx=> .ex V (fun e=>es[idx]? =some e) fun e=>Na agg off sz e v fun e'=> .bM r ⟨bZ,fN,db,iN,some (es.set idx e')⟩ (.done (.tuple [])))
  | none=> .fail
theorem Ref.ln {agg:Bool} {sz r g idx off:Nat} {v:V}:Ref (yo agg sz r g idx off v) (aH.ln agg sz r g idx off v):=by
 unfold yo aH.ln
 simp only[Ry]
 refine⟨_,rfl,fun ⟨gen,sz',arr,fz,es⟩=> ?_⟩
 cases es with
 | none=>trivial
 | some es=>
   intro hc
   try simp only at hc
   simp only[hc,and_self,if_true]
   have Kr:Ref (.ex V (fun e=>es[idx]? =some e) fun e=>match jT agg off sz e v with
      | some e'=> .bM r ⟨gen,sz',arr,fz,some (es.set idx e')⟩ (.done (.tuple []))
      | none=> .fail) (match es[idx]? with
        | some e=>match kr agg off sz e v with
          | some e'=> .bM r {gen:=gen,sz:=sz',arr:=arr,fz:=fz,es:=some (es.set idx e')} (.done (.tuple []))
          | none=> .fail
        | none=> .fail):=by
     intro e he
     simp only[he]
     cases hp:jT agg off sz e v with
     | none=>trivial
     | some e'=>simp only[vW hp];exact⟨_,rfl,rfl⟩
   rw[hc.1,hc.2] at Kr
   cases arr with
   | true=>exact Kr
   | false=>
     simp only
     split
     ·rename_i e
      simp only[List.getElem?_cons_zero]
      cases hp:jT agg off sz e v with
      | none=>trivial
      | some e'=>simp only[vW hp];exact⟨_,rfl,rfl⟩
     ·exact Kr
def op2 (E:Env):sW→bD
 | .move x=>gH x .done
 | .pick c a b=>gH c fun| .bool c=> .ite c (gH a .done) (gH b .done) | _=> .fail
 | .new r sz x=>gH x fun v=>bif mN v sz &&Nat.ble 1 sz then .sX r fun g=> .bM r {gen:=g,sz,arr:=false,fz:=false,es:=some [v]} (.done (.ptr r g 0 0)) else .fail
 | .build cells parts=>yl parts fun ps=>match lj cells ps with
   | some cs=>force cs fun cs=> .done (.agg cs)
   | none=> .fail
 | .buildSlice r sz zero n parts=>ym parts fun ps=>bif mN zero sz &&Nat.ble 1 sz &&Nat.ble (n*sz) 16777216 then(match (bif gX ps n then s8 sz 0 ps else none) with
   | some es=> .sX r fun g=> .bM r {gen:=g,sz,arr:=true,fz:=false,es:=some es} (.done (.sl r g 0 n))
   | none=>match ll sz (List.replicate n zero) ps with
     | some es=> .sX r fun g=> .bM r {gen:=g,sz,arr:=true,fz:=false,es:=some es} (.done (.sl r g 0 n))
     | none=> .fail) else .fail
 | .td r sz=>bif Nat.ble 1 sz then .sX r fun g=> .bM r {gen:=g,sz,arr:=true,fz:=false,es:=some []} (.done (.sl r g 0 0)) else .fail
 | .ren r x=>gH x fun
   | .sl r1 g off len=>bif Nat.beq r1 r then .done (.sl r1 g off len) else .bP r1 fun ⟨bZ,fN,db,iN,gY⟩=> .bU (bZ=g) (.sX r fun g'=>
       .bM r ⟨g',fN,db,iN,gY⟩ (.bM r1 ⟨bZ+1,fN,db,iN,none⟩ (.done (.sl r g' off len))))
   | v=> .done v
 | .load agg sz x=>gH x fun
   | .ptr r g idx off=> .bP r fun ⟨bZ,fN,db,iN,gY⟩=>match gY with
     | some es=> .bU (bZ=g) (match db with
       | true=> .ex V (fun e=>es[idx]? =some e) fun e=>o8 agg off sz e
       |  false=>match es,idx with
          | [e],0=>o8 agg off sz e
          | es,idx=> .ex V (fun e=>es[idx]? =some e) fun e=>o8 agg off sz e)
     | none=> .fail
   | .eptr e off=>o8 agg off sz e
   | .epk _ _ e off=>o8 agg off sz e
   | _=> .fail
 | .store agg sz x v=>gH x fun
   | .ptr r g idx off=> .bP r fun ⟨bZ,fN,db,iN,gY⟩=>match db with
     | true=>gH v fun v=>As v fun v=>yo agg sz r g idx off v
     | false=>gH v fun v=>yo agg sz r g idx off v
   | _=> .fail
 | .nilCheck x=>gH x fun
   | .ptr r g idx off=> .done (.ptr r g idx off)
   | .eptr e off=> .done (.eptr e off)
   | .epk i z e off=> .done (.epk i z e off)
   | .fn f caps=> .done (.fn f caps)
   | .bfn f caps=> .done (.bfn f caps)
   | _=> .fail
 | .bin op x y=>gH x fun a=>gH y fun b=>US op a b
 | .Xh neg ks x y=>gH x fun a=>gH y fun b=>match a,b with
   | .agg aD,.agg bs=>match cR ks aD bs with
       | some b=> .done (.bool (b !=neg))
       | none=> .fail
   | _,_=> .fail
 | .un op x=>gH x fun a=>la (unV op a)
 | .te k x=>gH x fun| .int _ n=> .done (.int k (k.wrap n)) | _=> .fail
 | .yp x=>gH x fun| .int _ n=> .done (.float (FloatKind.f64.nearest n)) | _=> .fail
 | .yq k x=>gH x fun
   | .float b=> .ex Int (fun n=> (FloatKind.f64.decode b).toInt .zero=some n∧k.min≤n∧n≤k.max) fun n=> .done (.int k n)
   | _=> .fail
 | .yr f caps=>Ef caps fun vs=> .done (.fn f vs)
 | .slice sz x lo hi mx=>gH x fun v=>Rz lo fun l=>Rz hi fun h=>Rz mx fun m=>UX sz v l h m
 | .fieldAddr off x=>gH x fun
   | .ptr r g idx o=> .done (.ptr r g idx (o+off))
   | .eptr e o=> .done (.eptr e (o+off))
   | .epk i z e o=> .done (.epk i z e (o+off))
   | _=> .fail
 | .indexAddr sz x i=>gH x fun v=>gH i fun i=>UW sz v i
 | .o9 n sz x i=>gH x fun v=>gH i fun i=>match v,i with
   | .ptr r g idx off,.int _ j=> .bU (0≤j∧j<n) (.done (.ptr r g idx (off+j.toNat*sz)))
   | .eptr e off,.int _ j=> .bU (0≤j∧j<n) (.done (.eptr e (off+j.toNat*sz)))
   | _,_=> .fail
 | .pb x i=>gH x fun v=>gH i fun i=>match v,i with
   | .str s,.int _ n=> .bU (0≤n) (.ex UInt8 (fun b=>s[n.toNat]? =some b) fun b=> .done (.int .u8 b.toNat))
   | _,_=> .fail
 | .len x=>gH x fun v=>la (Rw v)
 | .yt x=>gH x fun| .str s=> .done (.int .i64 s.length) | _=> .fail
 | .min xs=>Ef xs fun vs=>la (oK min2 vs)
 | .max xs=>Ef xs fun vs=>la (oK max2 vs)
 | .append r sz lim s x=>gH s fun s=>gH x fun x=>s9 sz x fun ys=>Jf ys fun ys=>Cw r sz lim s ys
 | .clear sz zero x=>gH x fun
   | .nils=> .done (.tuple [])
   | .sl r g off len=> .bP r fun ⟨bZ,fN,db,iN,gY⟩=>match gY with
     | some es=> .bU (bZ=g∧db=true∧iN=false∧fN=sz∧off+len≤es.length∧aU zero sz=true)
          (.bM r ⟨bZ,fN,db,iN,some (overwrite es off (List.replicate len zero))⟩ (.done (.tuple [])))
     | none=> .fail
   | _=> .fail
 | .extract x i=>gH x fun
   | .tuple vs=>la (nth vs i)
   | _=> .fail
 | .call r bA f args=>gH f fun
   | .fn f caps=>Ef args fun aD=>bif Nat.beq (r % 16) 4 then .Xg (AM.lh E r bA f (aD++caps)) else kx E r bA f (aD++caps)
   | .bfn f first=>Ef args fun aD=>match Cx first,E.Cs f with
     | some (r',g),some h=> .bP r' fun ⟨bZ,fN,db,iN,gY⟩=>match gY with
       | some es=> .bU (bZ=g∧fN=0∧iN=false∧V.bj aD=true∧es.all V.isTuple=true) (.ex (V×List V) (fun p=>h es aD=some p) fun p=> .bM r' ⟨bZ,fN,db,iN,some p.2⟩ (.done p.1))
       | none=> .fail
     | _,_=>kx E r bA f (first++aD)
   | _=> .fail
 | .deep x=>gH x fun v=> .Xg (tf v)
 | .A3 ks agg sz x=>gH x fun
   | .ptr r g idx off=> .bP r fun ⟨bZ,fN,db,iN,gY⟩=>match gY with
     | some es=> .bU (bZ=g) (match es,idx with
       | [e],0=>la ((yh agg off sz e).map (GN ks))
       | _,_=> .fail)
     | none=> .fail
   | _=> .fail
 | .mkMap r=> .sX r fun g=> .bM r {gen:=g,sz:=0,arr:=false,fz:=false,es:=some []} (.done (.mp r g))
 | .u5 q x k v=>gH x fun
   | .mp r g=>gH k fun k=>gH v fun v=>As v fun v=> .bP r fun ⟨bZ,fN,db,iN,gY⟩=>match gY with
     | some es=> .bU (bZ=g∧fN=0∧iN=false∧isKey q k=true∧v.da=true) (.ex (List V) (fun es'=>iT k v es=some es') fun es'=>
          .bM r ⟨bZ,fN,db,iN,some es'⟩ (.done (.tuple [])))
     | none=> .fail
   | _=> .fail
 | .yu q ok zero x k=>gH x fun x=>gH k fun k=> .bU (isKey q k=true) (match x with
   | .mp r g=> .bP r fun ⟨bZ,fN,db,iN,gY⟩=>match gY with
     | some es=> .bU (bZ=g∧fN=0) (.ex V (fun v=>cQ ok zero es k= .done v) fun v=> .done v)
     | none=> .fail
   | .mlit es=> .ex V (fun v=>cQ ok zero es k= .done v) fun v=> .done v
   | _=> .fail)
 | .qx ks x k v=>gH x fun
   | .mp r g=>gH k fun k=>gH v fun v=>As v fun v=> .bP r fun ⟨bZ,fN,db,iN,gY⟩=>match gY with
     | some es=> .bU (bZ=g∧fN=0∧iN=false∧(dn ks k k).isSome=true∧v.da=true) (.ex (List V) (fun es'=>dF ks k v es=some es') fun es'=>
          .bM r ⟨bZ,fN,db,iN,some es'⟩ (.done (.tuple [])))
     | none=> .fail
   | _=> .fail
 | .qy ks ok zero x k=>gH x fun x=>gH k fun k=> .bU ((dn ks k k).isSome=true) (match x with
   | .mp r g=> .bP r fun ⟨bZ,fN,db,iN,gY⟩=>match gY with
     | some es=> .bU (bZ=g∧fN=0) (.ex V (fun v=>dB ks ok zero es k= .done v) fun v=> .done v)
     | none=> .fail
   | .mlit es=> .ex V (fun v=>dB ks ok zero es k= .done v) fun v=> .done v
   | _=> .fail)
 | .ky ks x k=>gH x fun
   | .mp r g=>gH k fun k=> .bP r fun ⟨bZ,fN,db,iN,gY⟩=>match gY with
     | some es=> .bU (bZ=g∧fN=0∧Au ks k=true∧es.all (Eg ks)=true) (.done (eu ks k es))
     | none=> .fail
   | _=> .fail
 | .kz ks x k=>gH x fun
   | .mp r g=>gH k fun k=> .bP r fun ⟨bZ,fN,db,iN,gY⟩=>match gY with
     | some es=> .bU (bZ=g∧fN=0∧iN=false∧Au ks k=true∧es.all (Eg ks)=true) (.ex (V×List V) (fun p=>match dZ ks k 0 es with
           | some (some (j,v))=>p=(.tuple [v,.int .i64 j],es)
           | some none=>p=(.tuple [.int .i64 0,.int .i64 es.length],es++[.tuple [k,.int .i64 0]])
           | none=>False) fun p=> .bM r ⟨bZ,fN,db,iN,some p.2⟩ (.done p.1))
     | none=> .fail
   | _=> .fail
 | .yw agg sz x v=>gH x fun
   | .ptr r g idx off=>gH v fun v=>yo agg sz r g idx off v
   | _=> .fail
 | .tg .. => .fail
 | .th x s v=>gH x fun
   | .mp r g=>gH s fun
     | .int .i64 j=>gH v fun v=>As v fun v=> .bP r fun ⟨bZ,fN,db,iN,gY⟩=>match gY with
       | some es=> .bU (bZ=g∧fN=0∧iN=false∧v.da=true∧0≤j) (.ex (List V) (fun es'=> ∃k' w,es[j.toNat]? =some (.tuple [k',w])∧es'=es.set j.toNat (.tuple [k',v])) fun es'=> .bM r ⟨bZ,fN,db,iN,some es'⟩ (.done (.tuple [])))
       | none=> .fail
     | _=> .fail
   | _=> .fail
 | .ti i r sz lim s x=>gH (.tmp i) fun
   | .int _ j=>gH s fun s=>gH x fun x=>s9 sz x fun ys=>Jf ys fun ys=>Cw (r+16*j.toNat) sz lim s ys
   | _=> .fail
 | .Nb x=>gH x fun v=> (match v with
   | .fn .. =>fL 5 v fun v' rs=>nS rs (.done v')
   | _=>As v .done)
 | .UU neg x y=>gH x fun a=>gH y fun b=>UT neg a b
 | .mapIter r x=>gH x fun
   | .mlit es=> .sX r fun g=> .bM r {gen:=g,sz:=0,arr:=false,fz:=false,es:=some [.mlit es]} (.done (.it r g))
   | _=> .fail
 | .tj f xs=>Ef xs fun vs=> .done (.bfn f vs)
 | .tk f caps=>yj caps fun vs=> .done (.fn f vs)
 | .bad=> .fail
theorem Ref.op {E:Env} {o:sW}:Ref (op2 E o) (aH E o):=by
 cases o with
 | mkMap r=>exact⟨_,rfl,fun o=> ⟨_,rfl,rfl⟩⟩
 | Nb x=>
   refine Ref.ev fun v=> ?_
   cases v with
   | fn f caps=>exact Ref.fY fun v' rs=>Ref.dP rfl
   | _=>exact Ref.A0 fun v=>rfl
 | u5 q x k v=>
   refine Ref.ev fun x=> ?_
   cases x<;>first| trivial| skip
   refine Ref.ev fun k=>Ref.ev fun v=>Ref.A0 fun v=> ⟨_,rfl,fun ⟨gen,sz,arr,fz,es⟩=> ?_⟩
   cases es with
   | none=>trivial
   | some es=>
     rintro hc es' he
     simp only[hc,he,and_self,if_true]
     exact⟨_,by simp[hc],rfl⟩
 | yu q ok zero x k=>
   refine Ref.ev fun x=>Ref.ev fun k=> ?_
   intro hk
   simp only[hk,if_true]
   cases x<;>first| trivial| skip
   case mp r g=>
     refine⟨_,rfl,fun ⟨gen,sz,arr,fz,es⟩=> ?_⟩
     cases es with
     | none=>trivial
     | some es=>
       rintro hc v hv
       show (if gen=g∧sz=0 then cQ ok zero es k else Act.fail)= .done v
       rw[if_pos hc]
       exact hv
   case mlit es=>
     rintro v hv
     exact hv
 | qx ks x k v=>
   refine Ref.ev fun x=> ?_
   cases x<;>first| trivial| skip
   refine Ref.ev fun k=>Ref.ev fun v=>Ref.A0 fun v=> ⟨_,rfl,fun ⟨gen,sz,arr,fz,es⟩=> ?_⟩
   cases es with
   | none=>trivial
   | some es=>
     rintro hc es' he
     simp only[hc,he,and_self,if_true]
     exact⟨_,by simp[hc],rfl⟩
 | qy ks ok zero x k=>
   refine Ref.ev fun x=>Ref.ev fun k=> ?_
   intro hk
   simp only[hk,if_true]
   cases x<;>first| trivial| skip
   case mp r g=>
     refine⟨_,rfl,fun ⟨gen,sz,arr,fz,es⟩=> ?_⟩
     cases es with
     | none=>trivial
     | some es=>
       rintro hc v hv
       show (if gen=g∧sz=0 then dB ks ok zero es k else Act.fail)= .done v
       rw[if_pos hc]
       exact hv
   case mlit es=>
     rintro v hv
     exact hv
 | ky ks x k=>
   refine Ref.ev fun x=> ?_
   cases x<;>first| trivial| skip
   refine Ref.ev fun k=> ⟨_,rfl,fun ⟨gen,sz,arr,fz,es⟩=> ?_⟩
   cases es with
   | none=>trivial
   | some es=>
     rintro⟨c1,c2,c3,c4⟩
     show G8 _ _ _ _=_
     simp only[kl,agc,G8,c4,c1,c2,c3,and_self,if_true]
 | kz ks x k=>
   refine Ref.ev fun x=> ?_
   cases x<;>first| trivial| skip
   refine Ref.ev fun k=> ⟨_,rfl,fun ⟨gen,sz,arr,fz,es⟩=> ?_⟩
   cases es with
   | none=>trivial
   | some es=>
     rintro hc ⟨u,es'⟩ he
     simp only[hc,and_self,if_true]
     revert he
     cases dZ ks k 0 es with
     | none=>exact fun he=>he.elim
     | some q=>
       cases q with
       | none=>intro he;simp only[af4] at he;obtain⟨rfl,rfl⟩:=he;exact⟨_,by simp[hc],rfl⟩
       | some p=>intro he;obtain⟨j,w⟩:=p;simp only[af4] at he;obtain⟨rfl,rfl⟩:=he;exact⟨_,by simp[hc],rfl⟩
 | yw agg sz x v=>
   refine Ref.ev fun v=> ?_
   cases v<;>first| trivial| skip
   exact Ref.ev fun v=>Ref.ln
 | tg ks zero x k=>trivial
 | th x s v=>
   refine Ref.ev fun x=> ?_
   cases x<;>first| trivial| skip
   refine Ref.ev fun s=> ?_
   cases s<;>first| trivial| skip
   rename_i kk j
   cases kk<;>first| trivial| skip
   refine Ref.ev fun v=>Ref.A0 fun v=> ⟨_,rfl,fun ⟨gen,sz,arr,fz,es⟩=> ?_⟩
   cases es with
   | none=>trivial
   | some es=>
     rintro hc es' ⟨k',w,he,rfl⟩
     simp only[hc,he,and_self,if_true]
     exact⟨_,by simp[hc],rfl⟩
 | ti i r sz lim s x=>
   refine⟨_,rfl,fun v=> ?_⟩
   cases v<;>first| trivial| skip
   exact Ref.ev fun s=>Ref.ev fun x=>Ref.content fun ys=>Ref.mM fun ys=>Ref.append
 | deep=>exact Ref.ev fun v=>rfl
 | A3 ks agg sz x=>
   refine Ref.ev fun v=> ?_
   cases v<;>first| trivial| skip
   case ptr r g idx off=>
     refine⟨_,rfl,fun ⟨gen,sz',arr,fz,es⟩=> ?_⟩
     cases es with
     | none=>trivial
     | some es=>
       intro hc
       try simp only at hc
       simp only[hc,if_true]
       split
       · simp only[List.getElem?_cons_zero]
         exact Ref.eC fun v hv=>by
           obtain⟨v0,h0,rfl⟩:=afZ.1 hv
           rw[nj h0];rfl
       ·trivial
 | move x=>exact Ref.ev fun v=>rfl
 | pick c a b=>
   refine Ref.ev fun v=> ?_
   cases v
   case bool c=>cases c with
     | true=>exact⟨fun _=>Ref.ev (fun v=>rfl),fun h=> (by cases h)⟩
     | false=>exact⟨fun h=> (by cases h),fun _=>Ref.ev (fun v=>rfl)⟩
   all_goals trivial
 | new r sz x=>
   refine Ref.ev fun v=>Ref.RB fun h=> ?_
   simp only[af2] at h
   have h1:=ni h.1
   have h2:0 <sz:=ahm h.2
   simp only[h1,h2,decide_true,agE,if_true]
   exact⟨_,rfl,fun o=> ⟨_,rfl,rfl⟩⟩
 | build cells parts=>
   refine Ref.mh fun ps=> ?_
   cases hf:lj cells ps with
   | none=>trivial
   | some cs=>simp only[ru hf,force_eq];exact rfl
 | buildSlice r sz zero n parts=>
   refine Ref.jK fun ps=>Ref.RB fun h=> ?_
   simp only[af2] at h
   have h1:=ni h.1.1
   have h2:0 <sz:=ahm h.1.2
   have h3:n*sz≤16777216:=ahm h.2
   split
   · rename_i es he
     have hl:gX ps n=true:=by
       cases hb:gX ps n with
       | true=>rfl
       | false=>simp[hb] at he
     simp only[hl,cond_true] at he
     have h4:=yn (pre:=[]) (es:=List.replicate n zero) he rfl (by simp[nc hl])
     simp only[agH] at h4
     simp only[h4,h1,h2,h3,and_self,decide_true,agE,if_true]
     exact⟨_,rfl,fun o=> ⟨_,rfl,rfl⟩⟩
   · cases hf:ll sz (List.replicate n zero) ps with
     | none=>trivial
     | some es=>
       simp only[rz hf,h1,h2,h3,and_self,decide_true,agE,if_true]
       exact⟨_,rfl,fun o=> ⟨_,rfl,rfl⟩⟩
 | td r sz=>
   refine Ref.RB fun h=> ?_
   have h2:0 <sz:=ahm h
   simp only[aH,h2,if_true]
   exact⟨_,rfl,fun o=> ⟨_,rfl,rfl⟩⟩
 | ren r x=>
   refine Ref.ev fun v=> ?_
   cases v
   case sl r1 g off len=>
     cases hb:Nat.beq r1 r with
     | true=>
       obtain rfl:=agx hb
       simp only[if_true,hb,cond_true]
       exact rfl
     | false=>
       have:r1≠r:=Nat.ne_of_beq_eq_false hb
       simp only[hb,cond_false,this,if_false]
       refine⟨_,rfl,fun ⟨gen,sz',arr,fz,es⟩=> ?_⟩
       intro hg
       have Xi:gen=g:=hg
       subst Xi
       simp only[if_true]
       exact⟨_,rfl,fun o=> ⟨_,rfl,_,rfl,rfl⟩⟩
   all_goals exact rfl
 | load agg sz x=>
   refine Ref.ev fun v=> ?_
   cases v<;>first| trivial| skip
   case ptr r g idx off=>
     refine⟨_,rfl,fun ⟨gen,sz',arr,fz,es⟩=> ?_⟩
     cases es with
     | none=>trivial
     | some es=>
       intro hc
       try simp only at hc
       simp only[hc,if_true]
       have Kr:Ref (.ex V (fun e=>es[idx]? =some e) fun e=>o8 agg off sz e) (match es[idx]? with
         | some e=>AM.eC (part agg off sz e)
         | none=> .fail):=by
         intro e he
         simp only[he]
         rw[s6];exact Ref.eC fun v hv=>nj hv
       cases arr with
       | true=>exact Kr
       | false=>
         simp only
         split
         ·rw[s6];exact Ref.eC fun v hv=>nj hv
         ·exact Kr
   case eptr e off=>simp only[s6];exact Ref.eC fun v hv=>nj hv
   case epk i z e off=>simp only[s6];exact Ref.eC fun v hv=>nj hv
 | store agg sz x v=>
   refine Ref.ev fun v=> ?_
   cases v<;>first| trivial| skip
   refine⟨_,rfl,fun ⟨gen,sz',arr,fz,es⟩=> ?_⟩
   cases arr with
   | true=>exact Ref.ev fun v=>Ref.A0 fun v=>Ref.ln
   | false=>exact Ref.ev fun v=>Ref.ln
 | nilCheck x=>exact Ref.ev fun v=>by cases v<;>first| trivial| exact rfl
 | bin op x y=>exact Ref.ev fun a=>Ref.ev fun b=>Ref.bin
 | Xh neg ks x y=>
   refine Ref.ev fun a=>Ref.ev fun b=> ?_
   cases a<;>first| trivial| skip
   cases b<;>first| trivial| skip
   rename_i aD bs
   simp only
   cases cR ks aD bs with
   | none=>trivial
   | some b=>exact rfl
 | un op x=>exact Ref.ev fun a=>Ref.gI
 | te k x=>exact Ref.ev fun v=>by cases v<;>first| trivial| exact rfl
 | yp x=>exact Ref.ev fun v=>by cases v<;>first| trivial| exact rfl
 | yq k x=>
   refine Ref.ev fun v=> ?_
   cases v<;>first| trivial| skip
   rintro n ⟨h1,h2,h3⟩
   simp only[h1,h2,h3,and_self,if_true]
   exact rfl
 | yr f caps=>exact Ref.evs fun v=>rfl
 | slice sz x lo hi mx=>
   rw[Ko]
   exact Ref.ev fun v=>Ref.Mw fun l=>Ref.Mw fun h=>Ref.Mw fun m=>Ref.slc
 | fieldAddr off x=>exact Ref.ev fun v=>by cases v<;>first| trivial| exact rfl
 | indexAddr sz x i=>
   rw[Aq]
   exact Ref.ev fun v=>Ref.ev fun i=>Ref.idx
 | o9 n sz x i=>
   refine Ref.ev fun v=>Ref.ev fun i=> ?_
   cases v<;>first| trivial| skip
   all_goals
     cases i<;>first| trivial| skip
     intro h
     simp only[h,and_self,if_true]
     exact rfl
 | pb x i=>
   refine Ref.ev fun v=>Ref.ev fun i=> ?_
   cases v<;>first| trivial| skip
   cases i<;>first| trivial| skip
   intro h b hb
   simp only[h,if_true,hb]
   exact rfl
 | len x=>exact Ref.ev fun v=>Ref.gI
 | yt x=>exact Ref.ev fun v=>by cases v<;>first| trivial| exact rfl
 | min xs=>exact Ref.evs fun vs=>Ref.gI
 | max xs=>exact Ref.evs fun vs=>Ref.gI
 | append r sz lim s x=>
   rw[G2]
   exact Ref.ev fun s=>Ref.ev fun x=>Ref.content fun ys=>Ref.mM fun ys=>Ref.append
 | clear sz zero x=>
   refine Ref.ev fun d=> ?_
   cases d<;>first| trivial| exact rfl| skip
   refine⟨_,rfl,fun ⟨gen,sz',arr,fz,es⟩=> ?_⟩
   cases es with
   | none=>trivial
   | some es=>
     intro hc
     try simp only at hc
     simp only[hc,and_self,if_true]
     exact⟨_,by simp[hc],rfl⟩
 | extract x i=>
   refine Ref.ev fun v=> ?_
   cases v<;>first| trivial| skip
   simp only[G6]
   exact Ref.gI
 | call r bA f args=>
   refine Ref.ev fun v=> ?_
   cases v<;>first| trivial| skip
   case fn g caps=>
     refine Ref.evs fun aD=> ?_
     cases hb:Nat.beq (r % 16) 4 with
     | true=>simp only[cond_true];exact rfl
     | false=>simp only[cond_false];exact Ref.lh
   case bfn g first=>
     refine Ref.evs fun aD=> ?_
     cases Cx first with
     | none=>exact Ref.lh
     | some p=>
       obtain⟨r',g'⟩:=p
       cases E.Cs g with
       | none=>exact Ref.lh
       | some h=>
         refine⟨_,rfl,fun ⟨gen,sz,arr,fz,es⟩=> ?_⟩
         cases es with
         | none=>trivial
         | some es=>
           rintro hc ⟨u,es'⟩ he
           simp only[hc,he,and_self,if_true]
           exact⟨_,by simp[hc],rfl⟩
 | UU neg x y=>exact Ref.ev fun a=>Ref.ev fun b=>Ref.UU
 | mapIter r x=>
   refine Ref.ev fun v=> ?_
   cases v<;>first| trivial| exact⟨_,rfl,fun o=> ⟨_,rfl,rfl⟩⟩
 | tj f xs=>exact Ref.evs fun vs=>rfl
 | tk f caps=>exact Ref.ku fun vs=>rfl
 | bad=>trivial
end Go.AM
namespace Go.AM
def Jh (E:Env) (o:bX):bD:=match o.guard with
 | none=>op2 E o.op
 | some (t,want)=> .mY t fun
   | .bool b=> (match want with
     | true=> .ite b (op2 E o.op) (.done dE)
     | false=> .ite b (.done dE) (op2 E o.op))
   | .tuple []=> .done dE
   | _=> .fail
theorem Ref.oper {E:Env} {o:bX}:Ref (Jh E o) (cJ E o):=by
 unfold Jh cJ
 cases o.guard with
 | none=>exact Ref.op
 | some p=>
   obtain⟨t,want⟩:=p
   refine⟨_,rfl,fun v=> ?_⟩
   cases v<;>first| trivial| skip
   case bool b=>cases b<;>cases want<;>simp[Ref,Ref.op]
   case tuple vs=>cases vs with
    | nil=>exact rfl
    | cons=>trivial
def Ks (E:Env):List bX→SS→(SS→Prop)→Prop
 | [],S,Q=>Q S
 | o::os,S,Q=>fb E (Jh E o) S fun v S' _ _=>match S' with
   | ⟨T,O⟩=>match o.dst with
     | some d=>Ks E os ⟨(d,v)::T,O⟩ Q
     | none=>Ks E os ⟨T,O⟩ Q
def Kt (E:Env):List bX→SS→(List eB→SS→Prop)→Prop
 | [],S,Q=>Q [] S
 | o::os,S,Q=>fb E (Jh E o) S fun v S' r w=>match S' with
   | ⟨T,O⟩=>match o.dst with
     | some d=>Kt E os ⟨(d,v)::T,O⟩ fun fs UY=>Q (eM o.op ⟨r,.t d::w⟩::fs) UY
     | none=>Kt E os ⟨T,O⟩ fun fs UY=>Q (eM o.op ⟨r,w⟩::fs) UY
section
variable {E:Env}
theorem G9 {a:Act} {σ:St} {Q:V→St→Prop} (h:xx E a σ fun v σ' _ _=>Q v σ'):GY E a σ Q:=by
 obtain⟨n,v,σ',h1,h2⟩:=h
 exact⟨n,v,σ',h1,h2⟩
theorem r5: ∀ {os:List bX} {S:SS} {Q:SS→Prop} {σ:St},Ks E os S Q→S.On σ→TH E os σ fun σ'=> ∃S',S'.On σ'∧Q S'
 | [],S,Q,σ,h,ho=>by rw[Rq];exact⟨S,ho,h⟩
 | o::os,S,Q,σ,h,ho=>by
   rw[MU]
   refine G9 (o6 (cW Ref.oper h ho) ?_)
   rintro v σ' r w ⟨⟨T,O⟩,uR,h'⟩
   have hp:=uR.put o.dst v
   cases hd:o.dst with
   | none=>simp only[hd] at h' hp ⊢;exact r5 h' hp
   | some d=>simp only[hd] at h' hp ⊢;exact r5 h' hp
theorem r6: ∀ {os:List bX} {S:SS} {Q:List eB→SS→Prop} {σ:St},Kt E os S Q→S.On σ→XW E os σ fun fs σ'=> ∃S',S'.On σ'∧Q fs S'
 | [],S,Q,σ,h,ho=>by rw[Rv];exact⟨S,ho,h⟩
 | o::os,S,Q,σ,h,ho=>by
   rw[M4]
   refine o6 (cW Ref.oper h ho) ?_
   rintro v σ' r w ⟨⟨T,O⟩,uR,h'⟩
   have hp:=uR.put o.dst v
   cases hd:o.dst with
   | none=>simp only[hd] at h' hp ⊢;exact r6 h' hp
   | some d=>simp only[hd] at h' hp ⊢;exact r6 h' hp
def thenS (Q:aP→SS→Prop) (k:SS→Prop):aP→SS→Prop
 | .normal,S=>k S
 | .exit id,S=>Q (.exit id) S
 | .ret,S=>Q .ret S
def Nc (id:Nat) (Q:aP→SS→Prop):aP→SS→Prop
 | .exit lW,S=>bif Nat.beq lW id then Q .normal S else Q (.exit lW) S
 | .normal,S=>Q .normal S
 | .ret,S=>Q .ret S
structure aO (E:Env) (b:aS) (S:SS) (Q:aP→SS→Prop):Prop where
 h: ∀σ,S.On σ→mX E (.loop b) σ fun e σ'=> ∃S',S'.On σ'∧Q e S'
structure Eh (E:Env) (it nx ne id:Nat) (kT kO:List Nat) (h0 b l:aS) (S:SS) (Q:aP→SS→Prop):Prop where
 h: ∀σ,S.On σ→mX E (.keys it nx ne id kT kO h0 b l) σ fun e σ'=> ∃S',S'.On σ'∧Q e S'
structure r7 (E:Env) (x:aT) (ps:List Nat) (a b:aS) (S:SS) (Q:aP→SS→Prop):Prop where
 h: ∀σ,S.On σ→mX E (.nN x ps a b) σ fun e σ'=> ∃S',S'.On σ'∧Q e S'
def km (E:Env):aS→SS→(aP→SS→Prop)→Prop
 | .skip,S,Q=>Q .normal S
 | .region ops,S,Q=>Ks E ops S (Q .normal)
 | .drawn ops,S,Q=>Kt E ops S fun fs S'=>mZ (TK (ops.map (·.pre)) [] [] fs=true) (Q .normal S')
 | .seq a b,S,Q=>km E a S (thenS Q fun S'=>km E b S' Q)
 | .cond c a b,S,Q=>match c with
   | .tmp t=> (match lk S.T t with
     | some (.bool c)=>Br c (km E a S Q) (km E b S Q)
     | _=>False)
   | .const (.bool c)=>Br c (km E a S Q) (km E b S Q)
   | _=>False
 | .block id b,S,Q=>km E b S (Nc id Q)
 | .loop b,S,Q=>aO E b S Q
 | .exit id,S,Q=>Q (.exit id) S
 | .ret,S,Q=>Q .ret S
 | .scope b,S,Q=>km E b S Q
 | .bad,_,_=>False
 | .nN x ps a b,S,Q=>r7 E x ps a b S Q
 | .keys it nx ne id kT kO h0 b l,S,Q=>Eh E it nx ne id kT kO h0 b l S Q
theorem cw: ∀ {c:aS} {S:SS} {Q:aP→SS→Prop} {σ:St},km E c S Q→S.On σ→mX E c σ fun e σ'=> ∃S',S'.On σ'∧Q e S'
 | .skip,S,Q,σ,h,ho=>by rw[yb];exact⟨S,ho,h⟩
 | .region ops,S,Q,σ,h,ho=>by rw[GZ];exact r5 h ho
 | .drawn ops,S,Q,σ,h,ho=>by
   refine Cp ?_
   have h1:=r6 h ho
   refine sV h1 ?_
   rintro fs σ' ⟨S',h2,h3,h4⟩
   exact⟨h3,S',h2,h4⟩
 | .seq a b,S,Q,σ,h,ho=>by
   rw[Ja]
   refine fy (cw (c:=a) h ho) ?_
   rintro e σ' ⟨S',h1,h2⟩
   cases e with
   | normal=>exact cw (c:=b) h2 h1
   | exit id=>exact⟨S',h1,h2⟩
   | ret=>exact⟨S',h1,h2⟩
 | .cond c a b,S,Q,σ,h,ho=>by
   rw[M1]
   simp only[km] at h
   cases c with
   | tmp t=>
     simp only at h
     split at h
     · rename_i c hc
       rw[D7,ho.1 t _ hc]
       cases c with
       | true=>exact cw (c:=a) (h.1 rfl) ho
       | false=>exact cw (c:=b) (h.2 rfl) ho
     ·exact h.elim
   | const v=>
     cases v
     case bool c=>
       rw[Ap]
       cases c with
       | true=>exact cw (c:=a) (h.1 rfl) ho
       | false=>exact cw (c:=b) (h.2 rfl) ho
     all_goals exact h.elim
 | .block id b,S,Q,σ,h,ho=>by
   rw[Kn]
   refine fy (cw (c:=b) h ho) ?_
   rintro e σ' ⟨S',h1,h2⟩
   cases e with
   | normal=>exact⟨S',h1,h2⟩
   | ret=>exact⟨S',h1,h2⟩
   | exit lW=>
     simp only[Nc] at h2
     simp only[I9]
     cases hb:Nat.beq lW id with
     | true=>
       have:=agx hb
       simp only[hb,cond_true] at h2
       rw[if_pos this];exact⟨S',h1,h2⟩
     | false=>
       have:lW≠id:=Nat.ne_of_beq_eq_false hb
       simp only[hb,cond_false] at h2
       rw[if_neg this];exact⟨S',h1,h2⟩
 | .loop b,S,Q,σ,h,ho=>h.h σ ho
 | .exit id,S,Q,σ,h,ho=>by rw[M0];exact⟨S,ho,h⟩
 | .ret,S,Q,σ,h,ho=>by rw[Ru];exact⟨S,ho,h⟩
 | .scope b,S,Q,σ,h,ho=>by rw[Kl];exact cw (c:=b) h ho
 | .nN ..,S,Q,σ,h,ho=>h.h σ ho
 | .keys ..,S,Q,σ,h,ho=>h.h σ ho
 | .bad,_,_,_,h,_=>h.elim
theorem abC {x:V}:aF [x] 0 1=[x]:=rfl
def xb {α:Type}:List (Nat×α)→List (Nat×α)→Prop
 | [],_=>True
 | p::l,m=> (match lk m p.1 with
   | some x=>x=p.2
   | none=>False)∧xb l m
def SS.Sub (S S':SS):Prop:=xb S.T S'.T∧xb S.O S'.O
theorem xb.lk {α:Type}: ∀ {l m:List (Nat×α)},xb l m→ ∀ {n x},lk l n=some x→lk m n=some x
 | [],_,_,n,x,h=>by simp[AM.lk] at h
 | p::l,m,h,n,x,hx=>by
   rw[eP] at hx
   by_cases e:p.1=n
   ·rw[if_pos e] at hx
    injection hx with hx
    have:=h.1
    subst e
    split at this
    ·rename_i y hy;rw[hy,this,hx]
    ·exact this.elim
   ·rw[if_neg e] at hx
    exact xb.lk h.2 hx
theorem SS.Sub.on {S S':SS} (h:S.Sub S') {σ:St} (ho:S'.On σ):S.On σ:=
 ⟨fun t v hv=>ho.1 t v (h.1.lk hv),fun r o hr=>ho.2 r o (h.2.lk hr)⟩
def XY (Q:aP→SS→Prop) (I:Nat→SS→Prop) (k:Nat):aP→SS→Prop
 | .normal,S=> ∃j,j<k∧ ∃S',S'.Sub S∧I j S'
 | .exit id,S=>Q (.exit id) S
 | .ret,S=>Q .ret S
theorem aO.of {b:aS} {Q:aP→SS→Prop} (I:Nat→SS→Prop) (hI: ∀k S,I k S→km E b S (XY Q I k)) {k:Nat} {S0 S:SS} (hs:S0.Sub S) (h0:I k S0):aO E b S Q:=by
 refine⟨fun σ ho=> ?_⟩
 refine vU (fun k σ=> ∃S,S.On σ∧I k S) ?_ k σ ⟨S0,hs.on ho,h0⟩
 rintro k σ ⟨S,hS,hi⟩
 refine fy (cw (hI k S hi) hS) ?_
 rintro e σ' ⟨S',h1,h2⟩
 cases e with
 | normal=>
   obtain⟨j,hj,UY,h3,h4⟩:=h2
   exact⟨j,hj,UY,h3.on h1,h4⟩
 | exit id=>exact⟨S',h1,h2⟩
 | ret=>exact⟨S',h1,h2⟩
theorem dw: ∀ {a:bD} {S:SS} {Q Q':KK},fb E a S Q→(∀v S' r w,Q v S' r w→Q' v S' r w)→fb E a S Q'
 | .done v,_,_,_,h,k=>k _ _ _ _ h
 | .fail,_,_,_,h,_=>h
 | .mY t f,S,Q,Q',h,k=>by
   simp only[fb] at h ⊢
   split
   ·rename_i v hv
    rw[hv] at h
    exact dw h fun _ _ _ _ h=>k _ _ _ _ h
   ·rename_i hv;rw[hv] at h;exact h
 | .bP t f,S,Q,Q',h,k=>by
   simp only[fb] at h ⊢
   split
   ·rename_i v hv
    rw[hv] at h
    exact dw h fun _ _ _ _ h=>k _ _ _ _ h
   ·rename_i hv;rw[hv] at h;exact h
 | .bM t o f,⟨T,O⟩,Q,Q',h,k=>by
   simp only[fb] at h ⊢
   exact dw h fun _ _ _ _ h=>k _ _ _ _ h
 | .sX t f,S,Q,Q',h,k=>by
   simp only[fb] at h ⊢
   exact fun g=>dw (h g) fun _ _ _ _ h=>k _ _ _ _ h
 | .call f aD c,S,Q,Q',h,k=>by
   simp only[fb] at h ⊢
   obtain⟨res,h1,h2⟩:=h
   exact⟨res,h1,dw h2 k⟩
 | .bU p c,S,Q,Q',h,k=> ⟨h.1,dw h.2 k⟩
 | .ex α p c,S,Q,Q',h,k=>by
   obtain⟨x,h1,h2⟩:=h
   exact⟨x,h1,dw h2 k⟩
 | .ite b x y,S,Q,Q',h,k=> ⟨fun hb=>dw (h.1 hb) k,fun hb=>dw (h.2 hb) k⟩
 | .Xg a,S,Q,Q',h,k=> ⟨fun σ ho=>o6 (h.h σ ho) fun v σ' r w ⟨S',h1,h2⟩=> ⟨S',h1,k _ _ _ _ h2⟩⟩
 | .alt x y,S,Q,Q',h,k=>by
   rcases h with h| h
   ·exact .inl (dw h k)
   ·exact .inr (dw h k)
 | .all f,S,Q,Q',h,k=>fun n=>dw (h n) k
theorem u6: ∀ {os:List bX} {S:SS} {Q Q':SS→Prop},Ks E os S Q→(∀S',Q S'→Q' S')→Ks E os S Q'
 | [],_,_,_,h,k=>k _ h
 | o::os,_,_,_,h,k=>dw h fun _ ⟨T,O⟩ _ _ h=>by
   cases hd:o.dst with
   | none=>simp only[hd] at h ⊢;exact u6 h k
   | some d=>simp only[hd] at h ⊢;exact u6 h k
theorem u7: ∀ {os:List bX} {S:SS} {Q Q':List eB→SS→Prop},Kt E os S Q→(∀fs S',Q fs S'→Q' fs S')→Kt E os S Q'
 | [],_,_,_,h,k=>k _ _ h
 | o::os,_,_,_,h,k=>dw h fun _ ⟨T,O⟩ _ _ h=>by
   cases hd:o.dst with
   | none=>simp only[hd] at h ⊢;exact u7 h fun _ _ h=>k _ _ h
   | some d=>simp only[hd] at h ⊢;exact u7 h fun _ _ h=>k _ _ h
theorem iU: ∀ {c:aS} {S:SS} {Q Q':aP→SS→Prop},km E c S Q→(∀e S',Q e S'→Q' e S')→km E c S Q'
 | .skip,_,_,_,h,k=>k _ _ h
 | .region _,_,_,_,h,k=>u6 h fun _ h=>k _ _ h
 | .drawn _,_,_,_,h,k=>u7 h fun _ _ h=> ⟨h.1,k _ _ h.2⟩
 | .seq a b,_,Q,Q',h,k=>iU (c:=a) h fun e S' h'=>by
   cases e with
   | normal=>exact iU (c:=b) h' k
   | exit id=>exact k _ _ h'
   | ret=>exact k _ _ h'
 | .cond c a b,S,Q,Q',h,k=>by
   simp only[km] at h ⊢
   cases c with
   | tmp t=>
     simp only at h ⊢
     split at h
     ·exact⟨fun hb=>iU (c:=a) (h.1 hb) k,fun hb=>iU (c:=b) (h.2 hb) k⟩
     ·exact h.elim
   | const v=>
     cases v
     case bool c=>exact⟨fun hb=>iU (c:=a) (h.1 hb) k,fun hb=>iU (c:=b) (h.2 hb) k⟩
     all_goals exact h.elim
 | .block id b,_,Q,Q',h,k=>iU (c:=b) h fun e S' h'=>by
   cases e with
   | normal=>exact k _ _ h'
   | ret=>exact k _ _ h'
   | exit lW=>
     simp only[Nc] at h' ⊢
     cases hb:Nat.beq lW id with
     | true=>simp only[hb,cond_true] at h' ⊢;exact k _ _ h'
     | false=>simp only[hb,cond_false] at h' ⊢;exact k _ _ h'
 | .loop b,_,_,_,h,k=> ⟨fun σ ho=>fy (h.h σ ho) fun e σ' ⟨S',h1,h2⟩=> ⟨S',h1,k _ _ h2⟩⟩
 | .exit _,_,_,_,h,k=>k _ _ h
 | .ret,_,_,_,h,k=>k _ _ h
 | .scope b,_,_,_,h,k=>iU (c:=b) h k
 | .nN ..,_,_,_,h,k=> ⟨fun σ ho=>fy (h.h σ ho) fun e σ' ⟨S',h1,h2⟩=> ⟨S',h1,k _ _ h2⟩⟩
 | .keys ..,_,_,_,h,k=> ⟨fun σ ho=>fy (h.h σ ho) fun e σ' ⟨S',h1,h2⟩=> ⟨S',h1,k _ _ h2⟩⟩
 | .bad,_,_,_,h,_=>h
inductive aK {α:Type} (Sh:α→SS) (P:α→Prop) (μ:α→Nat) (a:α) (S:SS):Prop
 | mk (a':α) (h1:μ a'<μ a) (h2:P a') (h3: (Sh a').Sub S)
def Nd {α:Type} (Q:aP→SS→Prop) (Sh:α→SS) (P:α→Prop) (μ:α→Nat) (a:α):aP→SS→Prop
 | .normal,S=>aK Sh P μ a S
 | .exit id,S=>Q (.exit id) S
 | .ret,S=>Q .ret S
theorem aO.by {α:Type} {b:aS} {Q:aP→SS→Prop} {S:SS} (Sh:α→SS) (P:α→Prop) (μ:α→Nat) (a0:α) (hs: (Sh a0).Sub S) (h0:P a0)
   (step: ∀a,P a→km E b (Sh a) (Nd Q Sh P μ a)):aO E b S Q:=by
 refine aO.of (fun k S=> ∃a,k=μ a∧P a∧S=Sh a) ?_ hs ⟨a0,rfl,h0,rfl⟩
 rintro k S ⟨a,rfl,hp,rfl⟩
 refine iU (step a hp) fun e S' h=> ?_
 cases e with
 | normal=>
   obtain⟨a',h1,h2,h3⟩:=h
   exact⟨_,h1,_,h3,a',rfl,h2,rfl⟩
 | exit id=>exact h
 | ret=>exact h
theorem aO.UZ {b:aS} {Q:aP→SS→Prop} {S:SS} (h:aO E b S fun e S'=> ∃S0,S0.Sub S'∧Q e S0):aO E b S Q:=by
 refine⟨fun σ ho=>fy (h.h σ ho) ?_⟩
 rintro e σ' ⟨S',h1,S0,h2,h3⟩
 exact⟨S0,h2.on h1,h3⟩
def XZ (K:SS→Prop):aP→SS→Prop
 | .normal,S=>K S
 | _,_=>False
def Ei (S:SS):List Nat→List V→SS
 | p::ps,x::xs=>Ei (S.put (some p) x) ps xs
 | _,_=>S
theorem Ej: ∀ {ps:List Nat} {x:List V} {S:SS} {T:Nat→V} {O:Nat→Obj},S.On ⟨T,O⟩→(Ei S ps x).On ⟨jr T ps x,O⟩
 | [],x,S,T,O,h=>by simpa [Ei,jr] using h
 | p::ps,[],S,T,O,h=>by simpa [Ei,jr] using h
 | p::ps,x::xs,S,T,O,h=>Ej (ps:=ps) (x:=xs) (h.put (some p) x)
inductive Nf {α:Type} (Oh:α→List (Nat×Obj)) (P:α→Prop) (O:List (Nat×Obj)):Prop
 | mk (a:α) (h1:P a) (h2:xb (Oh a) O)
def abD {α:Type} (Q:aP→SS→Prop) (T:List (Nat×V)) (Oh:α→List (Nat×Obj)) (P:α→Prop):aP→SS→Prop
 | .normal,S=>Nf Oh P S.O
 | .exit id,S=>Q (.exit id) ⟨T,S.O⟩
 | .ret,S=>Q .ret ⟨T,S.O⟩
theorem r7.by {α:Type} {fx:aT} {ps:List Nat} {ac b:aS} {S:SS} {Q:aP→SS→Prop} {g:Nat} {caps:List V} (xs:List (List V)) (hf:match fx with| .tmp t=>lk S.T t=some (.fn g caps) | .const v=>v= .fn g caps) (hi:E.iter g caps=some xs) (hl: ∀x ∈ xs,x.length=ps.length)
  (Oh:α→List (Nat×Obj)) (P:Nat→α→Prop) (a0:α) (h0:xb (Oh a0) S.O) (hp:P 0 a0)
  (step: ∀ (k:Nat) x a,xs[k]? =some x→P k a→km E ac (Ei ⟨S.T,Oh a⟩ ps x) (XZ fun S1=>km E b S1 (abD Q S.T Oh (P (k+1)))))
  (fin: ∀a,P xs.length a→Q .normal ⟨S.T,Oh a⟩):r7 E fx ps ac b S Q:=by
 refine⟨fun σ ho=> ?_⟩
 have X1: ∀ {l:List (Nat×Obj)} {σ:St} {m:List (Nat×Obj)},xb l m→(∀r o,lk m r=some o→σ.O r=o)→ ∀r o,lk l r=some o→σ.O r=o:=fun {l σ m} hs hm=>by
  have h2: (⟨[],m⟩:SS).On σ:=⟨fun t v h=>by simp[lk] at h,hm⟩
  exact(SS.Sub.on (S:=⟨[],l⟩) (S':=⟨[],m⟩) ⟨trivial,hs⟩ h2).2
 have run: ∀ (rest:List (List V)) (k:Nat) (a:α) (O:Nat→Obj),xs.drop k=rest→P k a→(∀r o,lk (Oh a) r=some o→O r=o)→k≤xs.length→ ∃n e σ',tp (exec E n) ps ac b σ.T rest O=some (e,σ')∧ ∃S',S'.On σ'∧Q e S':=by
  intro rest
  induction rest with
  | nil=>
    intro k a O hd Ha hO U0
    have hk:xs.length≤k:=by
      have:=congrArg List.length hd
      simp at this;omega
    have:k=xs.length:=ae0
    subst this
    exact⟨0,.normal,⟨σ.T,O⟩,rfl,⟨S.T,Oh a⟩,⟨ho.1,hO⟩,fin a Ha⟩
  | cons x rest ih=>
    intro k a O hd Ha hO U0
    have hk:k<xs.length:=by
      rcases ahd k xs.length with h| h
      ·exact h
      ·rw[ahE h] at hd;simp at hd
    rw[agq hk] at hd
    injection hd with hx hd
    have QZ:xs[k]? =some x:=by rw[af3 hk,hx]
    obtain⟨n1,e1,σ1,h1,S1,h2,h3⟩:=cw (step k x a QZ Ha) (Ej (x:=x) (ps:=ps) (S:=⟨S.T,Oh a⟩) (T:=σ.T) (O:=O) ⟨ho.1,hO⟩)
    cases e1 with
    | exit id=>exact h3.elim
    | ret=>exact h3.elim
    | normal=>
      obtain⟨n2,e2,σ2,k1,S2,k2,k3⟩:=cw h3 h2
      cases e2 with
      | normal=>
        obtain⟨a',q1,q2⟩:=k3
        obtain⟨n3,e,σ',l1,l2⟩:=ih (k+1) a' σ2.O hd q1 (X1 (σ:=σ2) q2 k2.2) ae0
        refine⟨max n1 (max n2 n3),e,σ',?_,l2⟩
        have m1:=cu (E:=E) (agw n1 (max n2 n3)) _ _ _ h1
        have m2:=cu (E:=E) (agm (agw n2 n3) (ago n1 _)) _ _ _ k1
        have m3:=uT (fun c σ x h=>cu (E:=E) (agm (ago n2 n3) (ago n1 _)) c σ x h) l1
        simp only[tp,m1,m2,m3]
      | exit id=>
        refine⟨max n1 n2,.exit id,⟨σ.T,σ2.O⟩,?_,⟨S.T,S2.O⟩,⟨ho.1,k2.2⟩,k3⟩
        have m1:=cu (E:=E) (agw n1 n2) _ _ _ h1
        have m2:=cu (E:=E) (ago n1 n2) _ _ _ k1
        simp only[tp,m1,m2]
      | ret=>
        refine⟨max n1 n2,.ret,⟨σ.T,σ2.O⟩,?_,⟨S.T,S2.O⟩,⟨ho.1,k2.2⟩,k3⟩
        have m1:=cu (E:=E) (agw n1 n2) _ _ _ h1
        have m2:=cu (E:=E) (ago n1 n2) _ _ _ k1
        simp only[tp,m1,m2]
 obtain⟨n,e,σ',h1,h2⟩:=run xs 0 a0 σ.O afU hp (X1 (σ:=σ) h0 ho.2) (agI _)
 refine⟨n+1,e,σ',?_,h2⟩
 have RC:bu σ fx= .fn g caps:=by
  cases fx with
  | tmp t=>exact ho.1 t _ hf
  | const v=>exact hf
 have kA:xs.all (fun x=>Nat.beq x.length ps.length)=true:=by
  rw[af5];intro x hx;rw[ahe];exact hl x hx
 simp only[exec,aC,RC,hi,kA,if_true,h1]
def Ng (K:SS→Prop):aP→SS→Prop
 | .normal,S=>K S
 | _,_=>False
def X2 (id:Nat) (K:SS→Prop):aP→SS→Prop
 | .exit lW,S=>mZ (lW=id) (K S)
 | _,_=>False
theorem Hb {α:Type}: ∀ {l:List (Nat×α)} {n:Nat} {v:α},lk l n=some v→(n,v) ∈ l
 | [],n,v,h=>by simp[lk] at h
 | (k,u)::l,n,v,h=>by
   rw[eP] at h
   split at h
   · rename_i e
     simp only at e
     subst e
     injection h with h;subst h;simp
   ·exact List.mem_cons_of_mem _ (Hb h)
theorem Eh.by {it nx ne id:Nat} {kT kO:List Nat} {h0 b l:aS} {Q:aP→SS→Prop} {S:SS} {r g:Nat} {arr:Bool} {es:List V} (Sh:List V→SS) (Sf:SS)
   (hT:lk S.T it=some (.it r g)) (hO:lk S.O r=some ⟨g,0,arr,false,some [.mlit es]⟩) (X3: (Sh []).Sub ⟨S.T,(r,⟨g,0,false,false,none⟩)::S.O⟩)
   (oU: ∀d,lk (Sh d).T it=some (.it r g)) (hg: ∀d,∃o,lk (Sh d).O r=some o∧o.gen=g) (bo: ∀e ∈ es,∃k v,e= .tuple [k,v])
   (step: ∀d k v rest,(d++ .tuple [k,v]::rest).Perm es→km E h0 (SS.put (Sh d) (some nx) (.tuple [.bool true,k,v])) (Ng fun S1=> (lk S1.T it=some (.it r g)∧ ∃o,lk S1.O r=some o∧o.gen=g)∧km E b (SS.put S1 (some ne) (.tuple [k,v])) (Ng fun S'=> (Sh (d++[.tuple [k,v]])).Sub S')))
   (last: ∀d,d.Perm es→km E h0 (SS.put (Sh d) (some nx) (.tuple [.bool false])) (X2 id fun S'=>km E l S' (Ng fun UY=>Sf.Sub UY)))
   (TM:kT.all (fun t=> (lk Sf.T t).isSome)=true) (TN:kO.all (fun t=> (lk Sf.O t).isSome)=true) (fT:Sf.T.all (fun p=>kT.contains p.1)=true) (fO:Sf.O.all (fun p=>kO.contains p.1)=true)
   (hQ:Q .normal Sf):Eh E it nx ne id kT kO h0 b l S Q:=by
 refine⟨fun σ ho=> ?_⟩
 have abE: (Sh []).On ⟨σ.T,cU σ.O r ⟨g,0,false,false,none⟩⟩:=by
   refine X3.on ⟨fun t v hv=>ho.1 t v hv,fun x o hx=> ?_⟩
   rw[eP] at hx
   show cU σ.O r _ x=o
   unfold cU
   by_cases e:r=x
   ·simp only[e,if_true,afY] at hx ⊢;exact hx
   ·rw[if_neg e] at hx;rw[if_neg (ag8 e)];exact ho.2 x o hx
 have TO: ∀d (τ:St),(Sh d).On τ→xd it r g τ=true:=fun d τ hτ=>by
   obtain⟨o,h1,h2⟩:=hg d
   unfold xd
   rw[hτ.1 _ _ (oU d),hτ.2 _ _ h1]
   simp[h2]
 have run: ∀ (rest d:List V) (τ:St),(d++rest).Perm es→(Sh d).On τ→ ∃n σp,runK (exec E n) it r g nx ne id h0 b l rest τ=some σp∧Sf.On σp:=by
   intro rest
   induction rest with
   | nil=>
     intro d τ hp hτ
     obtain⟨n1,e,τ1,h1,S1,h2,h3⟩:=cw (last d (by simpa using hp)) (hτ.put (some nx) (.tuple [.bool false]))
     cases e with
     | normal=>exact h3.elim
     | ret=>exact h3.elim
     | exit lW=>
       obtain⟨rfl,h3⟩:=h3
       obtain⟨n2,e2,τ2,k1,S2,k2,k3⟩:=cw h3 h2
       cases e2 with
       | exit lW=>exact k3.elim
       | ret=>exact k3.elim
       | normal=>
         refine⟨max n1 n2,τ2,?_,SS.Sub.on k3 k2⟩
         have m1:=cu (E:=E) (agw n1 n2) _ _ _ h1
         have m2:=cu (E:=E) (ago n1 n2) _ _ _ k1
         simp only[runK,TO d τ hτ,if_true,m1,m2]
   | cons x rest ih=>
     intro d τ hp hτ
     obtain⟨k,v,rfl⟩:=bo x (hp.mem_iff.1 afU)
     obtain⟨n1,e,τ1,h1,S1,h2,h3⟩:=cw (step d k v rest hp) (hτ.put (some nx) (.tuple [.bool true,k,v]))
     cases e with
     | exit lW=>exact h3.elim
     | ret=>exact h3.elim
     | normal=>
       obtain⟨⟨t1,o1,t2,t3⟩,h3⟩:=h3
       have abF:xd it r g τ1=true:=by
         unfold xd
         rw[h2.1 _ _ t1,h2.2 _ _ t2]
         simp[t3]
       obtain⟨n3,e3,τ3,l1,S3,l2,l3⟩:=cw h3 (h2.put (some ne) (.tuple [k,v]))
       cases e3 with
       | exit lW=>exact l3.elim
       | ret=>exact l3.elim
       | normal=>
         obtain⟨n2,σp,k1,k2⟩:=ih (d++[.tuple [k,v]]) τ3 (by simpa using hp) (SS.Sub.on l3 l2)
         refine⟨max n1 (max n3 n2),σp,?_,k2⟩
         have m1:=cu (E:=E) (agw n1 (max n3 n2)) _ _ _ h1
         have m3:=cu (E:=E) (agm (agw n3 n2) (ago n1 _)) _ _ _ l1
         have m2:=qw (fun c σ x h=>cu (E:=E) (agm (ago n3 n2) (ago n1 _)) c σ x h) k1
         simp only[runK,TO d τ hτ,abF,if_true,m1,m3,m2]
 obtain⟨n,ys,h1,h2,h3⟩:=yx (f:=fun n p=>runK (exec E n) it r g nx ne id h0 b l p ⟨σ.T,cU σ.O r ⟨g,0,false,false,none⟩⟩) (P:=fun σp=>Sf.On σp)
   (fun n m p y RD h=>qw (fun c σ x h=>cu (E:=E) RD c σ x h) h) (l:=perms es) fun p hp=>run p [] _ (by simpa using vX hp) abE
 have cF:perms es≠[]:=fun e=>by have:=pc (List.Perm.refl es);rw[e] at this;simp at this
 match ys,h2,h3,h1 with
 | [],h2,_,_=>exact absurd (agR.1 h2.symm) cF
 | σ1::σs,_,h3,h1=>
   have U1:σ.T it= .it r g:=ho.1 _ _ hT
   have hO':=ho.2 _ _ hO
   have TP:σs.all (agree kT kO σ1)=true:=by
     rw[af5]
     intro τ hτ
     have o1:=h3 σ1 afU
     have o2:=h3 τ (by simp[hτ])
     simp only[agree,af2,af5] at TM TN ⊢
     refine⟨fun t ht=> ?_,fun x hx=> ?_⟩
     · obtain⟨v,hv⟩:=af8.1 (TM t ht)
       rw[o1.1 t v hv,o2.1 t v hv];exact V.lq v
     · obtain⟨v,hv⟩:=af8.1 (TN x hx)
       rw[o1.2 x v hv,o2.2 x v hv];exact Obj.lq v
   refine⟨n+1,.normal,forget kT kO σ1 σs,?_,Sf,?_,hQ⟩
   ·simp only[exec,aC,U1,hO',and_self,if_true,h1,TP]
   · have o1:=h3 σ1 afU
     refine⟨fun t v hv=> ?_,fun x o hx=> ?_⟩
     · have:=af5.1 fT _ (Hb hv)
       simp only[forget,this,if_true]
       exact o1.1 t v hv
     · have:=af5.1 fO _ (Hb hx)
       simp only[forget,this,if_true]
       exact o1.2 x o hx
theorem TQ (i:Nat) (h:i< 4611686018427387904):V.int .i64 (IntKind.i64.wrap ((i:Int)+1))=V.int .i64 ((i+1:Nat):Int):=by
 rw[wrap64 ae0 ae0];rfl
def Hc ( S:SS):List sU→(List V→Prop)→Prop
 | [],k=>k []
 | .tmp t::rs,k=> (match lk S.T t with
   | some v=>Hc S rs fun vs=>k (v::vs)
   | none=>False)
 | .cell t agg sz::rs,k=> (match lk S.T t with
   | some (.ptr r g idx off)=> (match lk S.O r with
     | some ⟨bZ,_,_,_,gY⟩=> (match gY with
       | some [e]=> (match idx with
         | 0=>mZ (bZ=g) (match yh agg off sz e with
           | some v=>Hc S rs fun vs=>k (v::vs)
           | none=>False)
         | _+1=>False)
       | _=>False)
     | none=>False)
   | _=>False)
theorem r8 {S:SS} {σ:St} (ho:S.On σ): ∀ {rs:List sU} {k:List V→Prop},Hc S rs k→ ∃vs,ek σ rs=some vs∧k vs
 | [],k,h=> ⟨[],rfl,h⟩
 | .tmp t::rs,k,h=>by
   simp only[Hc] at h
   split at h
   ·rename_i v hv
    obtain⟨vs,h1,h2⟩:=r8 ho h
    exact⟨v::vs,by simp[ek,lr,h1,ho.1 t v hv],h2⟩
   ·exact h.elim
 | .cell t agg sz::rs,k,h=>by
   simp only[Hc] at h
   split at h
   ·rename_i r g idx off hv
    split at h
    ·rename_i bZ fN db iN gY hr
     split at h
     ·rename_i e
      split at h
      ·obtain⟨hg,h⟩:=h
       split at h
       ·rename_i v hp
        obtain⟨vs,h1,h2⟩:=r8 ho h
        refine⟨v::vs,?_,h2⟩
        simp[ek,lr,h1,ho.1 t _ hv,ho.2 r _ hr,hg,nj hp]
       ·exact h.elim
      ·exact h.elim
     ·exact h.elim
    ·exact h.elim
   ·exact h.elim
def vY (S:SS):Nat→List V→(List (Nat×List V)→Prop)→Prop
 | _,[],k=>k []
 | i,.msl sz _ _ _::aD,k| i,.mptr sz _ _ _::aD,k=> (match lk S.O i with
   | some ⟨bZ,fN,_,iN,gY⟩=> (match gY with
     | some es=>mZ (iN=false∧fN=sz∧V.ak es=true) (vY S (i+1) aD fun outs=>k ((bZ,es)::outs))
     | none=>False)
   | none=>False)
 | i,_::aD,k=>vY S (i+1) aD k
theorem mj {S:SS} {σ:St} (ho:S.On σ): ∀ {aD:List V} {i:Nat} {k:List (Nat×List V)→Prop},vY S i aD k→ ∃outs,cI σ.O i aD=some outs∧k outs
 | [],i,k,h=> ⟨[],by simp[cI],by simpa [vY] using h⟩
 | a::aD,i,k,h=>by
   cases a
   case msl sz es' off len=>
    simp only[vY] at h
    split at h
    ·rename_i bZ fN db iN gY hr
     split at h
     ·   rename_i es
         obtain⟨hc,h⟩:=h
         obtain⟨outs,h1,h2⟩:=mj ho h
         refine⟨_,?_,h2⟩
         simp[cI,ho.2 i _ hr,h1,hc]
     ·exact h.elim
    ·exact h.elim
   case mptr sz es' off len=>
    simp only[vY] at h
    split at h
    ·rename_i bZ fN db iN gY hr
     split at h
     ·   rename_i es
         obtain⟨hc,h⟩:=h
         obtain⟨outs,h1,h2⟩:=mj ho h
         refine⟨_,?_,h2⟩
         simp[cI,ho.2 i _ hr,h1,hc]
     ·exact h.elim
    ·exact h.elim
   all_goals
    simp only[vY] at h
    obtain⟨outs,h1,h2⟩:=mj ho h
    exact⟨outs,by simp[cI,h1],h2⟩
def tq ( n:Nat) (S:SS) (c:V) (k:V→List Nat→Prop):Prop:=
 match c with
 | .sl r g off len=> (match lk S.O r with
   | some ⟨bZ,fN,db,iN,gY⟩=> (match gY with
     | some es=>mZ (bZ=g∧db=true) (dj (fun ys=>aF es off len=ys) fun ys=>mZ (off+len≤es.length∧V.ak ys=true)
        (bif Nat.blt r n then k (.sl r g off len) [r] else bif iN then k (.lit fN ys) [] else k (.own fN ys) [r]))
     | none=>False)
   | none=>False)
 | c=>mZ (V.au c=true) (k c [])
theorem pd {n:Nat} {S:SS} {σ:St} (ho:S.On σ) {c:V} {k:V→List Nat→Prop} (h:tq n S c k): ∃v rs,cz n σ c=some (v,rs)∧k v rs:=by
 unfold tq at h
 split at h
 ·rename_i r g off len
  split at h
  ·rename_i bZ fN db iN gY hr
   split at h
   ·rename_i es
    obtain⟨⟨h1,h2⟩,ys,rfl,⟨h3,h4⟩,h⟩:=h
    have e1:=ho.2 r _ hr
    simp only[cz,e1,h1,h2,h3,h4,and_self,if_true]
    cases hb:Nat.blt r n with
    | true=>
      have:r<n:=by simpa [Nat.blt_eq] using hb
      simp only[hb,cond_true] at h
      rw[if_pos this];exact⟨_,_,rfl,h⟩
    | false=>
      have: ¬r<n:=by intro hc;rw[←Nat.blt_eq,hb] at hc;simp at hc
      simp only[hb,cond_false] at h
      rw[if_neg this]
      cases hz:iN with
      | true=>simp only[hz,cond_true] at h;exact⟨_,_,by simp[e1,hz],h⟩
      | false=>simp only[hz,cond_false] at h;exact⟨_,_,by simp[e1,hz],h⟩
   ·exact h.elim
  ·exact h.elim
 ·rename_i hn
  refine⟨c,[],?_,h.rest⟩
  have h:=h.side
  unfold cz
  cases c
  case sl=>exact absurd rfl (hn _ _ _ _)
  all_goals simp_all
def qz (n:Nat) (S:SS):List V→(List V→List Nat→Prop)→Prop
 | [],k=>k [] []
 | c::cs,k=>tq n S c fun c' r=>qz n S cs fun cP rs=>k (c'::cP) (r++rs)
theorem j9 {n:Nat} {S:SS} {σ:St} (ho:S.On σ): ∀ {cs:List V} {k:List V→List Nat→Prop},qz n S cs k→ ∃v rs,cg n σ cs=some (v,rs)∧k v rs
 | [],_,h=> ⟨[],[],rfl,h⟩
 | c::cs,k,h=>by
   obtain⟨v,r,h1,h2⟩:=pd ho h
   obtain⟨vs,rs,h3,h4⟩:=j9 ho h2
   exact⟨_,_,by simp[cg,h1,h3],h4⟩
def Nh (n:Nat) (S:SS) (v:V) (k:V→List Nat→Prop):Prop:=
 bif V.au v then k v [] else
 match v with
 | .agg cs=>qz n S cs fun cP rs=>k (.agg cP) rs
 | .fn f cs=>qz n S cs fun cP rs=>mZ (V.ak cP=true) (k (.fn f cP) rs)
 | v=>tq n S v k
theorem Ek {n:Nat} {S:SS} {σ:St} (ho:S.On σ) {v:V} {k:V→List Nat→Prop} (h:Nh n S v k): ∃v' rs,dH n σ v=some (v',rs)∧k v' rs:=by
 unfold Nh at h
 unfold dH
 cases hp:V.au v with
 | true=>simp only[hp,cond_true] at h;exact⟨v,[],afU,h⟩
 | false=>
   simp only[hp,cond_false] at h
   simp only[aga,if_false]
   split at h
   ·obtain⟨cP,rs,h1,h2⟩:=j9 ho h
    exact⟨_,_,by simp[h1],h2⟩
   ·obtain⟨cP,rs,h1,h2,h3⟩:=j9 ho h
    exact⟨_,_,by simp[h1,h2],h3⟩
   ·obtain⟨v',rs,h1,h2⟩:=pd ho h
    exact⟨v',rs,by cases v<;>simp_all,h2⟩
def Hd (n:Nat) (S:SS):List V→(List V→List Nat→Prop)→Prop
 | [],k=>k [] []
 | c::cs,k=>Nh n S c fun c' r=>Hd n S cs fun cP rs=>k (c'::cP) (r++rs)
theorem tu {n:Nat} {S:SS} {σ:St} (ho:S.On σ): ∀ {cs:List V} {k:List V→List Nat→Prop},Hd n S cs k→ ∃v rs,dp n σ cs=some (v,rs)∧k v rs
 | [],_,h=> ⟨[],[],rfl,h⟩
 | c::cs,k,h=>by
   obtain⟨v,r,h1,h2⟩:=Ek ho h
   obtain⟨vs,rs,h3,h4⟩:=tu ho h2
   exact⟨_,_,by simp[dp,h1,h3],h4⟩
def pf (rs:List sU) (args:List V) (S:SS) (R:eL→Prop):Prop:=
 Hc S rs fun vs=>vY S 0 args fun outs=>Hd args.length S vs fun vs' refs=>mZ (distinct refs=true) (match vs' with
  | [v]=>R ⟨v,outs⟩
  | vs'=>R ⟨.tuple vs',outs⟩)
def Av (rs:List sU) (args:List V) (R:eL→Prop):aP→SS→Prop
 | .exit _,_=>False
 | .normal,S=>pf rs args S R
 | .ret,S=>pf rs args S R
theorem nV {rs:List sU} {args:List V} {S:SS} {R:eL→Prop} {σ:St} (ho:S.On σ) (h:pf rs args S R): ∃res,leave ⟨0,0,[],rs,.skip,none⟩ args σ=some res∧R res:=by
 obtain⟨vs,h1,h⟩:=r8 ho h
 obtain⟨outs,h2,h⟩:=mj ho h
 obtain⟨vs',refs,h3,h4,h⟩:=tu ho h
 simp only[leave,h1,h2,h3]
 split at h
 ·rename_i v
  exact⟨_,by simp[h4],h⟩
 ·rename_i hn
  refine⟨⟨.tuple vs',outs⟩,?_,h⟩
  split
  ·rename_i v rs' heq
   injection heq with e1;injection e1 with e1 e2
   exact absurd e1 (by intro hh;exact hn v hh)
  ·rename_i vs2 rs2 heq
   injection heq with e1;injection e1 with e1 e2
   subst e1 e2
   simp[h4]
  ·rename_i heq;simp at heq
def mO:Nat→List V→List (Nat×V)
 | _,[]=> []
 | i,.msl _ _ off len::aD=> (i,.sl i 0 off len)::mO (i+1) aD
 | i,.mptr _ _ idx off::aD=> (i,.ptr i 0 idx off)::mO (i+1) aD
 | i,v::aD=> (i,v)::mO (i+1) aD
def mP:Nat→List V→List (Nat×Obj)
 | _,[]=> []
 | i,.msl sz es _ _::aD=> (i,{gen:=0,sz,arr:=true,fz:=false,es:=some es})::mP (i+1) aD
 | i,.mptr sz es _ _::aD=> (i,{gen:=0,sz,arr:=false,fz:=false,es:=some es})::mP (i+1) aD
 | i,_::aD=>mP (i+1) aD
def u9 (args:List V):SS:=⟨mO 0 args,mP 0 args⟩
theorem A4: ∀ (aD pre:List V) (t:Nat) (v:V),lk (mO pre.length aD) t=some v→(enter (pre++aD)).T t=v
 | [],_,_,_,h=>by simp[mO,lk] at h
 | a::aD,pre,t,v,h=>by
   have ih:=A4 aD (pre++[a]) t v
   simp only[List.length_append,agb,agi,agK,ag4,List.singleton_append] at ih
   have key: ∀x,lk ((pre.length,x)::mO (pre.length+1) aD) t=some v→(enter (pre++a::aD)).T pre.length=x→(enter (pre++a::aD)).T t=v:=by
    intro x hx hv
    rw[eP] at hx
    by_cases e:pre.length=t
    ·simp only[e,if_true,afY] at hx;rw[←hx,←hv,e]
    ·simp only[e,if_false] at hx;exact ih hx
   have hg: (pre++a::aD)[pre.length]? =some a:=afU
   cases a
   case msl=>exact key _ (by simpa [mO] using h) (by simp[enter,hg])
   case mptr=>exact key _ (by simpa [mO] using h) (by simp[enter,hg])
   all_goals exact key _ (by simpa [mO] using h) (by simp[enter,hg])
theorem A5: ∀ (aD pre:List V) (t:Nat) (v:Obj),lk (mP pre.length aD) t=some v→(enter (pre++aD)).O t=v
 | [],_,_,_,h=>by simp[mP,lk] at h
 | a::aD,pre,t,v,h=>by
   have ih:=A5 aD (pre++[a]) t v
   simp only[List.length_append,agb,agi,agK,ag4,List.singleton_append] at ih
   have key: ∀x,lk ((pre.length,x)::mP (pre.length+1) aD) t=some v→(enter (pre++a::aD)).O pre.length=x→(enter (pre++a::aD)).O t=v:=by
    intro x hx hv
    rw[eP] at hx
    by_cases e:pre.length=t
    ·simp only[e,if_true,afY] at hx;rw[←hx,←hv,e]
    ·simp only[e,if_false] at hx;exact ih hx
   have hg: (pre++a::aD)[pre.length]? =some a:=afU
   cases a
   case msl=>exact key _ (by simpa [mP] using h) (by simp[enter,hg])
   case mptr=>exact key _ (by simpa [mP] using h) (by simp[enter,hg])
   all_goals exact ih (by simpa [mP] using h)
theorem vb (args:List V): (u9 args).On (enter args):=
 ⟨fun t v h=>A4 args [] t v h,fun r o h=>A5 args [] r o h⟩
theorem Ev.bH {f:Nat} {af:aM} {args:List V} {R:eL→Prop} (hf:E.fn f=some af) (hx:E.ext f args=none) (hl:args.length=af.nparams)
  (h:km E af.body (u9 args) (Av af.results args R)) (ht:af.tag=none:=by rfl) (hh:E.hyb f=none:=by rfl): ∃res,Ev E f args res∧R res:=by
 obtain⟨n,e,σ',h1,S',h2,h3⟩:=cw h (vb args)
 have key: ∀ {e},exec E n af.body (enter args)=some (e,σ')→(e= .normal∨e= .ret)→pf af.results args S' R→ ∃res,Ev E f args res∧R res:=by
  intro e h1 he U2
  obtain⟨res,h4,h5⟩:=nV h2 U2
  refine⟨res,⟨n,?_⟩,h5⟩
  unfold call dm
  rw[hh];simp only[eZ]
  rw[hx];simp only[hf,hl,if_true,ht,h1]
  rcases he with rfl| rfl<;>exact h4
 cases e with
 | normal=>exact key h1 (.inl rfl) h3
 | ret=>exact key h1 (.inr rfl) h3
 | exit id=>exact h3.elim
theorem Ev.aI {f:Nat} {af:aM} {args:List V} {res:eL} (hf:E.fn f=some af) (hx:E.ext f args=none) (hl:args.length=af.nparams)
  (h:km E af.body (u9 args) (Av af.results args (· =res))) (ht:af.tag=none:=by rfl) (hh:E.hyb f=none:=by rfl):Ev E f args res:=by
 obtain⟨r,h1,rfl⟩:=Ev.bH hf hx hl h ht hh
 exact h1
theorem Ev.X4 {f:Nat} {af:aM} {args:List V} {R:eL→Prop} {p:Nat×Nat} {Ni:List V} (hf:E.fn f=some af) (hx:E.ext f args=none) (hl:args.length=af.nparams) (ht:af.tag=some p) (hp:V.ak args=true) (hm:cC p args=Ni)
  (h:km E af.body (u9 Ni) (Av af.results Ni R)) (hh:E.hyb f=none:=by rfl): ∃res,Ev E f args ⟨res.val.erase,[]⟩∧R res:=by
 subst hm
 obtain⟨n,e,σ',h1,S',h2,h3⟩:=cw h (vb (cC p args))
 have key: ∀ {e},exec E n af.body (enter (cC p args))=some (e,σ')→(e= .normal∨e= .ret)→pf af.results (cC p args) S' R→ ∃res,Ev E f args ⟨res.val.erase,[]⟩∧R res:=by
  intro e h1 he U2
  obtain⟨res,h4,h5⟩:=nV h2 U2
  refine⟨res,⟨n,?_⟩,h5⟩
  unfold call dm
  rw[hh];simp only[eZ]
  rw[hx];simp only[hf,hl,if_true,ht,hp,h1]
  have h4':leave af (cC p args) σ'=some res:=h4
  rcases he with rfl| rfl<;>simp only[h4',agc]
 cases e with
 | normal=>exact key h1 (.inl rfl) h3
 | ret=>exact key h1 (.inr rfl) h3
 | exit id=>exact h3.elim
end
end Go.AM
namespace Go.AM
inductive xe {α:Type} (Sh:α→SS) (P:α→Prop) (S:SS):Prop
 | mk (x:α) (h2:P x) (h3: (Sh x).Sub S)
def X5 {α:Type} (Q:aP→SS→Prop) (Sh:α→SS) (P:α→Prop):aP→SS→Prop
 | .normal,S=>xe Sh P S
 | .exit id,S=>Q (.exit id) S
 | .ret,S=>Q .ret S
def Ku:Nat→aS→aS
 | 0,_=> .skip
 | n+1,.seq a b=> .seq a (Ku n b)
 | _+1,c=>c
def El:Nat→aS→aS
 | 0,c=>c
 | n+1,.seq _ b=>El n b
 | _+1,_=> .skip
section
variable {E:Env}
def WS (E:Env) (c:aS) (S:SS) (Q:aP→SS→Prop):Prop:= ∀σ,S.On σ→mX E c σ fun e σ'=> ∃S',S'.On σ'∧Q e S'
theorem WS.of {c:aS} {S:SS} {Q:aP→SS→Prop} (h:km E c S Q):WS E c S Q:=fun _ ho=>cw h ho
theorem A6: ∀ {n:Nat} {c:aS} {σ:St} {Q:aP→St→Prop},mX E (Ku n c) σ (andThen Q fun σ'=>mX E (El n c) σ' Q)→mX E c σ Q
 | 0,c,σ,Q,h=>by
   simp only[Ku] at h
   rw[yb] at h
   exact h
 | n+1,c,σ,Q,h=>by
   have other:Ku (n+1) c=c→El (n+1) c= .skip→mX E c σ Q:=fun e1 e2=>by
    rw[e1,e2] at h
    refine fy h ?_
    intro e σ' hq
    cases e with
    | normal=>simp only[andThen] at hq;rw[yb] at hq;exact hq
    | exit id=>exact hq
    | ret=>exact hq
   cases c
   case seq a b=>
    simp only[Ku,El] at h
    rw[Ja] at h ⊢
    refine fy h ?_
    intro e σ' hq
    cases e with
    | normal=>exact A6 (n:=n) hq
    | exit id=>exact hq
    | ret=>exact hq
   all_goals exact other rfl rfl
theorem WS.cut {α:Type} (n:Nat) (Sh:α→SS) (P:α→Prop) {Q:aP→SS→Prop} {c:aS} {S:SS} (h1:km E (Ku n c) S (X5 Q Sh P)) (h2: ∀x,P x→WS E (El n c) (Sh x) Q):WS E c S Q:=fun σ ho=>by
 refine A6 (n:=n) (fy (cw h1 ho) ?_)
 rintro e σ' ⟨S',h3,h4⟩
 cases e with
 | normal=>
   obtain⟨x,h5,h6⟩:=h4
   exact h2 x h5 σ' (h6.on h3)
 | exit id=>exact⟨S',h3,h4⟩
 | ret=>exact⟨S',h3,h4⟩
theorem Ev.TR {f:Nat} {af:aM} {args:List V} {R:eL→Prop} (hf:E.fn f=some af) (hx:E.ext f args=none) (hl:args.length=af.nparams)
  (h:WS E af.body (u9 args) (Av af.results args R)) (ht:af.tag=none:=by rfl) (hh:E.hyb f=none:=by rfl): ∃res,Ev E f args res∧R res:=by
 obtain⟨n,e,σ',h1,S',h2,h3⟩:=h (enter args) (vb args)
 have key: ∀ {e},exec E n af.body (enter args)=some (e,σ')→(e= .normal∨e= .ret)→pf af.results args S' R→ ∃res,Ev E f args res∧R res:=by
  intro e h1 he U2
  obtain⟨res,h4,h5⟩:=nV h2 U2
  refine⟨res,⟨n,?_⟩,h5⟩
  unfold call dm
  rw[hh];simp only[eZ]
  rw[hx];simp only[hf,hl,if_true,ht,h1]
  rcases he with rfl| rfl<;>exact h4
 cases e with
 | normal=>exact key h1 (.inl rfl) h3
 | ret=>exact key h1 (.inr rfl) h3
 | exit id=>exact h3.elim
theorem aO.ws {α:Type} {b:aS} {Q:aP→SS→Prop} {S:SS} (Sh:α→SS) (P:α→Prop) (μ:α→Nat) (a0:α) (hs: (Sh a0).Sub S) (h0:P a0)
   (step: ∀a,P a→WS E b (Sh a) (Nd Q Sh P μ a)):aO E b S Q:=by
 refine⟨fun σ ho=> ?_⟩
 refine vU (fun k σ=> ∃a,k=μ a∧P a∧(Sh a).On σ) ?_ (μ a0) σ ⟨a0,rfl,h0,hs.on ho⟩
 rintro k σ ⟨a,rfl,hp,hS⟩
 refine fy (step a hp σ hS) ?_
 rintro e σ' ⟨S',h1,h2⟩
 cases e with
 | normal=>
   obtain⟨a',h3,h4,h5⟩:=h2
   exact⟨_,h3,a',rfl,h4,h5.on h1⟩
 | exit id=>exact⟨S',h1,h2⟩
 | ret=>exact⟨S',h1,h2⟩
end
end Go.AM
