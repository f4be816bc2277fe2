/- Texts of the proof. -/
import Derived.Test.YtdldmebldkgcnaaGreatDefs
import Derived.Attr
set_option linter.unusedSimpArgs false
set_option linter.unusedVariables false
namespace Go.AM
def Ut (C C':bo):Prop:= ∀f asq r,C f asq=some r→C' f asq=some r
theorem Act.kq {C C':bo} (h:Ut C C'): ∀ (a:Act) (σ:St) (r:V×St),a.run C σ=some r→a.run C' σ=some r
 | .done v,σ,r,e=>by simpa [Act.run] using e
 | .fail,σ,r,e=>by simp[Act.run] at e
 | .nW t k,σ,r,e=>by simp only[Act.run] at e ⊢;exact Act.kq h _ _ _ e
 | .bR t k,σ,r,e=>by simp only[Act.run] at e ⊢;exact Act.kq h _ _ _ e
 | .bO t o k,σ,r,e=>by simp only[Act.run] at e ⊢;exact Act.kq h _ _ _ e
 | .call f asq k,σ,r,e=>by
   simp only[Act.run] at e ⊢
   split at e
   ·rename_i res jj
    rw[h f asq res jj]
    exact Act.kq h _ _ _ e
   ·simp at e
theorem Act.jN {C C':bo} (h:Ut C C'): ∀ (a:Act) (σ:St) (r:V×St),a.run C σ=some r→a.cV C' σ=a.cV C σ
 | .done v,σ,r,e=>by simp[Act.cV]
 | .fail,σ,r,e=>by simp[Act.run] at e
 | .nW t k,σ,r,e=>by simp only[Act.run] at e;simp only[Act.cV];rw[Act.jN h _ _ _ e]
 | .bR t k,σ,r,e=>by simp only[Act.run] at e;simp only[Act.cV];rw[Act.jN h _ _ _ e]
 | .bO t o k,σ,r,e=>by simp only[Act.run] at e;simp only[Act.cV];rw[Act.jN h _ _ _ e]
 | .call f asq k,σ,r,e=>by
   simp only[Act.run] at e
   simp only[Act.cV]
   split at e
   ·rename_i res jj
    rw[h f asq res jj]
    simp only
    exact Act.jN h _ _ _ e
   ·simp at e
theorem zI {E:Env} {C C':bo} (h:Ut C C') {o:b9} {σ σ':St} (e:dV E C o σ=some σ'):dV E C' o σ=some σ':=by
 unfold dV at e ⊢
 split at e
 ·rename_i v σ1 hr
  rw[Act.kq h _ _ _ hr];exact e
 ·simp at e
theorem pV {E:Env} {C C':bo} (h:Ut C C'): ∀ {os:List b9} {σ σ':St},iN E C os σ=some σ'→iN E C' os σ=some σ'
 | [],_,_,e=>by simpa [iN] using e
 | o::os,_,_,e=>by
   simp only[iN] at e ⊢
   split at e
   ·rename_i σ1 h1
    rw[zI h h1]
    exact pV h e
   ·simp at e
theorem Cp {E:Env} {C C':bo} (h:Ut C C') {o:b9} {σ σ':St} (e:dV E C o σ=some σ'):db E C' o σ=db E C o σ:=by
 unfold dV at e
 split at e
 ·rename_i v σ1 hr
  simp only[db,Act.jN h _ _ _ hr]
 ·simp at e
theorem nI {E:Env} {C C':bo} (h:Ut C C'): ∀ {os:List b9} {ck:List eL} {before:List (List Nat)} {σ σ':St},eE E C os ck before σ=some σ'→eE E C' os ck before σ=some σ'
 | [],_,_,_,_,e=>by simpa [eE] using e
 | o::os,ck,before,σ,_,e=>by
   simp only[eE] at e ⊢
   split at e
   ·rename_i hc
    split at e
    ·rename_i σ1 h1
     rw[Cp h h1,zI h h1,if_pos hc]
     exact nI h e
    ·simp at e
   ·simp at e
def XLe (r r':aY→St→Option (aR×St)):Prop:= ∀c σ x,r c σ=some x→r' c σ=some x
theorem xS {E:Env} {r r':aY→St→Option (aR×St)} (h:XLe r r'):Ut (eM E r) (eM E r'):=by
 intro f asq res e
 unfold eM at e ⊢
 split at e
 ·exact e
 ·split at e
  ·split at e
   ·rename_i hl
    rw[if_pos hl]
    split at e
    ·split at e
     ·rename_i σ hx;rw[h _ _ _ hx];exact e
     ·rename_i σ hx;rw[h _ _ _ hx];exact e
     ·simp at e
    ·split at e
     ·rename_i hp
      rw[if_pos hp]
      split at e
      ·rename_i σ hx;rw[h _ _ _ hx];exact e
      ·rename_i σ hx;rw[h _ _ _ hx];exact e
      ·simp at e
     ·simp at e
   ·simp at e
  ·simp at e
theorem sI {E:Env} {r r':aY→St→Option (aR×St)} (h:XLe r r'):Ut (dt E r) (dt E r'):=by
 intro f asq res e
 unfold dt at e ⊢
 split at e
 ·rename_i g hg
  exact E.mono f g hg _ _ (xS h) _ _ e
 ·exact xS h _ _ _ e
theorem Cq {E:Env} {C C':bo} (hC:Ut C C') {r r':aY→St→Option (aR×St)} (h:XLe r r'):XLe (aJ E C r) (aJ E C' r'):=by
 intro c σ x e
 cases c with
 | skip=>simpa [aJ] using e
 | region ops=>
   simp only[aJ,aiU] at e ⊢
   obtain⟨σ1,h1,h2⟩:=e
   exact⟨σ1,pV hC h1,h2⟩
 | drawn ops=>
   simp only[aJ,aiU] at e ⊢
   obtain⟨σ1,h1,h2⟩:=e
   exact⟨σ1,nI hC h1,h2⟩
 | seq a b=>
   simp only[aJ] at e ⊢
   split at e
   ·rename_i σ1 h1;rw[h _ _ _ h1];exact h _ _ _ e
   ·rename_i hn
    rw[h _ _ _ e]
    rcases x with⟨ex,σ1⟩
    cases ex with
    | normal=>exact absurd e (by simpa using hn σ1)
    | _=>rfl
 | cond c a b=>
   simp only[aJ] at e ⊢
   split at e
   ·exact h _ _ _ e
   ·exact h _ _ _ e
   ·simp at e
 | block id b=>
   simp only[aJ] at e ⊢
   split at e
   ·rename_i mO σ1 h1;rw[h _ _ _ h1];exact e
   ·rename_i hn
    rw[h _ _ _ e]
    rcases x with⟨ex,σ1⟩
    cases ex with
    | exit mO=>exact absurd e (by simpa using hn mO σ1)
    | _=>rfl
 | loop b=>
   simp only[aJ] at e ⊢
   split at e
   ·rename_i σ1 h1;rw[h _ _ _ h1];exact h _ _ _ e
   ·rename_i hn
    rw[h _ _ _ e]
    rcases x with⟨ex,σ1⟩
    cases ex with
    | normal=>exact absurd e (by simpa using hn σ1)
    | _=>rfl
 | exit id=>simpa [aJ] using e
 | ret=>simpa [aJ] using e
 | scope b=>simp only[aJ] at e ⊢;exact h _ _ _ e
 | bad=>simp[aJ] at e
 | pW fx ps a b=>
   simp only[aJ] at e ⊢
   split at e
   ·rename_i g caps hg
    try simp only[hg]
    split at e
    ·rename_i xs LN
     try simp only[LN]
     split at e
     ·rename_i hc
      try rw[if_pos hc]
      exact wI h e
     ·simp at e
    ·simp at e
   ·simp at e
 | keys it nx ne id kT kO hd b l=>
   simp only[aJ] at e ⊢
   split at e
   ·rename_i ri g hT
    try simp only[hT]
    split at e
    ·rename_i es hO
     try simp only[hO]
     split at e
     ·rename_i hc
      try rw[if_pos hc]
      split at e
      ·rename_i σ1 σs hr
       rw[oP (fun p y hy=>rK h hy) hr]
       exact e
      ·simp at e
     ·simp at e
    ·simp at e
   ·simp at e
theorem C0 {E:Env}: ∀n,XLe (exec E n) (exec E (n+1))
 | 0=>by intro c σ x e;simp[exec] at e
 | n+1=>by
   have ih:=C0 (E:=E) n
   have:=Cq (E:=E) (sI (E:=E) ih) ih
   intro c σ x e
   simp only[exec] at e ⊢
   exact this _ _ _ e
theorem cE {E:Env} {n m:Nat} (h:n≤m):XLe (exec E n) (exec E m):=by
 induction h with
 | refl=>exact fun _ _ _ e=>e
 | step _ ih=>exact fun c σ x e=>C0 _ _ _ _ (ih c σ x e)
theorem ec {E:Env} {n m:Nat} (h:n≤m):Ut (call E n) (call E m):=sI (cE h)
def Ev (E:Env) (f:Nat) (args:List V) (res:eZ):Prop:= ∃n,call E n f args=some res
def St.bO (σ:St) (r:Nat) (o:Obj):St:={σ with O:=da σ.O r o}
inductive Tg {α β:Type} (a:α) (b:β):Type
 | mk
def Ju (E:Env) (a:Act) (σ:St) (Q:V→St→Prop) (_:Tg σ Q:= .mk):Prop:= ∃n v σ',a.run (call E n) σ=some (v,σ')∧Q v σ'
def W4 (E:Env) (os:List b9) (σ:St) (Q:St→Prop) (_:Tg os (σ,Q):= .mk):Prop:= ∃n σ',iN E (call E n) os σ=some σ'∧Q σ'
def nV (E:Env) (c:aY) (σ:St) (Q:aR→St→Prop) (_:Tg c (σ,Q):= .mk):Prop:= ∃n e σ',exec E n c σ=some (e,σ')∧Q e σ'
def zh (E:Env) (a:Act) (σ:St) (Q:V→St→List Loc→List Loc→Prop) (_:Tg σ Q:= .mk):Prop:= ∃n v σ',a.run (call E n) σ=some (v,σ')∧Q v σ' (a.cV (call E n) σ).reads (a.cV (call E n) σ).writes
def W5 (E:Env) (ck:List eL) (before:List (List Nat)) (os:List b9) (σ:St) (Q:St→Prop):Prop:= ∃n σ',eE E (call E n) os ck before σ=some σ'∧Q σ'
section
variable {E:Env} {σ:St}
theorem P5 {v:V} {Q:V→St→Prop}:Ju E (.done v) σ Q=Q v σ:=by
 simp only[Ju,Act.run,eq_iff_iff]
 constructor
 ·rintro⟨_,_,_,h,q⟩;injection h with h;injection h with h1 h2;subst h1 h2;exact q
 ·exact fun q=> ⟨0,_,_,rfl,q⟩
theorem zJ {t:Nat} {k:Obj→Act} {Q:V→St→Prop}:Ju E (.bR t k) σ Q=Ju E (k (σ.O t)) σ Q:=by
 simp[Ju,Act.run]
theorem Gr {t:Nat} {o:Obj} {k:Act} {Q:V→St→Prop}:Ju E (.bO t o k) σ Q=Ju E k (σ.bO t o) Q:=by
 simp[Ju,Act.run,St.bO]
theorem UM {Q:St→Prop}:W4 E [] σ Q=Q σ:=by simp[W4,iN]
theorem P6 {o:b9} {os:List b9} {Q:St→Prop}:W4 E (o::os) σ Q=Ju E (cP E o) σ fun v σ'=>W4 E os (σ'.put o.dst v) Q:=by
 simp only[W4,Ju,iN,dV,eq_iff_iff]
 constructor
 ·rintro⟨n,σ2,h,q⟩
  split at h
  ·rename_i σ1 h1
   split at h1
   ·rename_i v σ0 h0
    injection h1 with h1;subst h1
    exact⟨n,v,σ0,h0,n,σ2,h,q⟩
   ·simp at h1
  ·simp at h
 ·rintro⟨n,v,σ0,h0,m,σ2,h,q⟩
  refine⟨max n m,σ2,?_,q⟩
  rw[Act.kq (ec (ajv n m)) _ _ _ h0]
  exact pV (ec (ajj n m)) h
theorem P7 {v:V} {Q:V→St→List Loc→List Loc→Prop}:zh E (.done v) σ Q=Q v σ [] []:=by
 simp only[zh,Act.run,Act.cV,eq_iff_iff]
 constructor
 ·rintro⟨_,_,_,h,q⟩;injection h with h;injection h with h1 h2;subst h1 h2;exact q
 ·exact fun q=> ⟨0,_,_,rfl,q⟩
theorem P8 {t:Nat} {k:V→Act} {Q:V→St→List Loc→List Loc→Prop}:zh E (.nW t k) σ Q=zh E (k (σ.T t)) σ fun v σ' r w=>Q v σ' (.t t::r) w:=by
 simp[zh,Act.run,Act.cV]
theorem Gs {t:Nat} {k:Obj→Act} {Q:V→St→List Loc→List Loc→Prop}:zh E (.bR t k) σ Q=zh E (k (σ.O t)) σ fun v σ' r w=>Q v σ' (.o t::r) w:=by
 simp[zh,Act.run,Act.cV]
theorem P9 {t:Nat} {o:Obj} {k:Act} {Q:V→St→List Loc→List Loc→Prop}:zh E (.bO t o k) σ Q=zh E k (σ.bO t o) fun v σ' r w=>Q v σ' r (.o t::w):=by
 simp[zh,Act.run,Act.cV,St.bO]
theorem Qa {f:Nat} {asq:List V} {k:eZ→Act} {Q:V→St→List Loc→List Loc→Prop}:zh E (.call f asq k) σ Q= ∃res,Ev E f asq res∧zh E (k res) σ Q:=by
 simp only[zh,eq_iff_iff]
 constructor
 ·rintro⟨n,v,σ',h,q⟩
  simp only[Act.run,Act.cV] at h q
  split at h
  ·rename_i res hr
   simp only[hr] at q
   exact⟨res,⟨n,hr⟩,n,v,σ',h,q⟩
  ·simp at h
 ·rintro⟨res,⟨n,hn⟩,m,v,σ',h,q⟩
  have e1:=ec (E:=E) (ajv n m) _ _ _ hn
  have e2:=Act.kq (ec (E:=E) (ajj n m)) _ _ _ h
  have e3:=Act.jN (ec (E:=E) (ajj n m)) _ _ _ h
  refine⟨max n m,v,σ',?_,?_⟩
  ·simp only[Act.run,e1];exact e2
  ·simp only[Act.cV,e1,e3];exact q
theorem UN {ck:List eL} {before:List (List Nat)} {Q:St→Prop}:W5 E ck before [] σ Q=Q σ:=by simp[W5,eE]
theorem Qb {ck:List eL} {before:List (List Nat)} {o:b9} {os:List b9} {Q:St→Prop}:
  W5 E ck before (o::os) σ Q=zh E (cP E o) σ fun v σ' r w=>
   (fits ck (closure before o.pre) (fa o.op ⟨r,(match o.dst with| some d=> [.t d] | none=> [])++w⟩) ck.length &&o.pre.all (· <ck.length))=true∧
   W5 E (ck++[fa o.op ⟨r,(match o.dst with| some d=> [.t d] | none=> [])++w⟩]) (before++[closure before o.pre]) os (σ'.put o.dst v) Q:=by
 have key: ∀n,eE E (call E n) (o::os) ck before σ=if (fits ck (closure before o.pre) (db E (call E n) o σ) ck.length &&o.pre.all (· <ck.length))=true then
   (match dV E (call E n) o σ with| some σ'=>eE E (call E n) os (ck++[db E (call E n) o σ]) (before++[closure before o.pre]) σ'| none=>none) else none:=fun n=>rfl
 have UO: ∀n v σ0,(cP E o).run (call E n) σ=some (v,σ0)→dV E (call E n) o σ=some (σ0.put o.dst v):=fun n v σ0 h=>by simp only[dV,h]
 simp only[W5,zh,eq_iff_iff]
 constructor
 ·rintro⟨n,σ2,h,q⟩
  rw[key n] at h
  by_cases hc: (fits ck (closure before o.pre) (db E (call E n) o σ) ck.length &&o.pre.all (· <ck.length))=true
  ·rw[if_pos hc] at h
   cases h0: (cP E o).run (call E n) σ with
   | none=>simp[dV,h0] at h
   | some p=>
     obtain⟨v,σ0⟩:=p
     rw[UO n v σ0 h0] at h
     exact⟨n,v,σ0,h0,hc,n,σ2,h,q⟩
  ·rw[if_neg hc] at h;simp at h
 ·rintro⟨n,v,σ0,h0,hc,m,σ2,h,q⟩
  refine⟨max n m,σ2,?_,q⟩
  have e3:db E (call E (max n m)) o σ=db E (call E n) o σ:=by
   simp only[db,Act.jN (ec (E:=E) (ajv n m)) _ _ _ h0]
  have EC: (fits ck (closure before o.pre) (db E (call E n) o σ) ck.length &&o.pre.all (· <ck.length))=true:=hc
  rw[key,e3,if_pos EC,UO _ v σ0 (Act.kq (ec (ajv n m)) _ _ _ h0)]
  exact nI (ec (ajj n m)) h
def andThen (Q:aR→St→Prop) (k:St→Prop) (_:Tg Q k:= .mk):aR→St→Prop
 | .normal,σ=>k σ
 | .exit id,σ=>Q (.exit id) σ
 | .ret,σ=>Q .ret σ
def LO (id:Nat) (Q:aR→St→Prop) (_:Tg id Q:= .mk):aR→St→Prop
 | .exit mO,σ=>if mO=id then Q .normal σ else Q (.exit mO) σ
 | .normal,σ=>Q .normal σ
 | .ret,σ=>Q .ret σ
theorem fM {c:aY} {Q Q':aR→St→Prop} (h:nV E c σ Q) (k: ∀e σ',Q e σ'→Q' e σ'):nV E c σ Q':=by
 obtain⟨n,e,σ',h1,h2⟩:=h
 exact⟨n,e,σ',h1,k _ _ h2⟩
theorem zK {Q:aR→St→Prop}:nV E .skip σ Q=Q .normal σ:=by
 simp only[nV,eq_iff_iff]
 constructor
 ·rintro⟨n,e,σ',h,q⟩
  cases n<;>simp[exec,aJ] at h
  obtain⟨rfl,rfl⟩:=h;exact q
 ·exact fun q=> ⟨1,_,_,by simp[exec,aJ],q⟩
theorem Qc {id:Nat} {Q:aR→St→Prop}:nV E (.exit id) σ Q=Q (.exit id) σ:=by
 simp only[nV,eq_iff_iff]
 constructor
 ·rintro⟨n,e,σ',h,q⟩
  cases n<;>simp[exec,aJ] at h
  obtain⟨rfl,rfl⟩:=h;exact q
 ·exact fun q=> ⟨1,_,_,by simp[exec,aJ],q⟩
theorem UP {Q:aR→St→Prop}:nV E .ret σ Q=Q .ret σ:=by
 simp only[nV,eq_iff_iff]
 constructor
 ·rintro⟨n,e,σ',h,q⟩
  cases n<;>simp[exec,aJ] at h
  obtain⟨rfl,rfl⟩:=h;exact q
 ·exact fun q=> ⟨1,_,_,by simp[exec,aJ],q⟩
theorem M8 {b:aY} {Q:aR→St→Prop}:nV E (.scope b) σ Q=nV E b σ Q:=by
 simp only[nV,eq_iff_iff]
 constructor
 ·rintro⟨n,e,σ',h,q⟩
  cases n with
  | zero=>simp[exec] at h
  | succ n=>simp only[exec,aJ] at h;exact⟨n,e,σ',h,q⟩
 ·rintro⟨n,e,σ',h,q⟩
  exact⟨n+1,e,σ',by simpa only[exec,aJ] using h,q⟩
theorem Jv {ops:List b9} {Q:aR→St→Prop}:nV E (.region ops) σ Q=W4 E ops σ (Q .normal):=by
 simp only[nV,W4,eq_iff_iff]
 constructor
 ·rintro⟨n,e,σ',h,q⟩
  cases n with
  | zero=>simp[exec] at h
  | succ n=>
    simp only[exec,aJ,aiU] at h
    obtain⟨σ1,h1,h2⟩:=h
    injection h2 with h2 h3
    subst h2 h3
    exact⟨n,_,h1,q⟩
 ·rintro⟨n,σ',h,q⟩
  exact⟨n+1,_,σ',by simp only[exec,aJ,aiU];exact⟨σ',h,rfl⟩,q⟩
theorem M9 {ops:List b9} {Q:aR→St→Prop}:nV E (.drawn ops) σ Q=W5 E [] [] ops σ (Q .normal):=by
 simp only[nV,W5,eq_iff_iff]
 constructor
 ·rintro⟨n,e,σ',h,q⟩
  cases n with
  | zero=>simp[exec] at h
  | succ n=>
    simp only[exec,aJ,aiU] at h
    obtain⟨σ1,h1,h2⟩:=h
    injection h2 with h2 h3
    subst h2 h3
    exact⟨n,_,h1,q⟩
 ·rintro⟨n,σ',h,q⟩
  exact⟨n+1,_,σ',by simp only[exec,aJ,aiU];exact⟨σ',h,rfl⟩,q⟩
theorem LP {a b:aY} {Q:aR→St→Prop}:nV E (.seq a b) σ Q=nV E a σ (andThen Q fun σ'=>nV E b σ' Q):=by
 simp only[nV,eq_iff_iff]
 constructor
 ·rintro⟨n,e,σ',h,q⟩
  cases n with
  | zero=>simp[exec] at h
  | succ n=>
    simp only[exec,aJ] at h
    split at h
    ·rename_i σ1 h1
     exact⟨n,_,_,h1,n,e,σ',h,q⟩
    ·rename_i hn
     refine⟨n,e,σ',h,?_⟩
     cases e with
     | normal=>exact absurd h (by simpa using hn σ')
     | exit id=>exact q
     | ret=>exact q
 ·rintro⟨n,e,σ1,h,q⟩
  cases e with
  | normal=>
    obtain⟨m,e,σ',h',q⟩:=q
    refine⟨max n m+1,e,σ',?_,q⟩
    simp only[exec,aJ,cE (ajv n m) _ _ _ h]
    exact cE (ajj n m) _ _ _ h'
  | exit id=>exact⟨n+1,_,_,by simp only[exec,aJ,h],q⟩
  | ret=>exact⟨n+1,_,_,by simp only[exec,aJ,h],q⟩
theorem Qd {c:aU} {a b:aY} {Q:aR→St→Prop}:nV E (.cond c a b) σ Q=match bu σ c with| .bool true=>nV E a σ Q| .bool false=>nV E b σ Q| _=>False:=by
 simp only[nV,eq_iff_iff]
 constructor
 ·rintro⟨n,e,σ',h,q⟩
  cases n with
  | zero=>simp[exec] at h
  | succ n=>
    simp only[exec,aJ] at h
    split at h
    ·rename_i he;simp only[he];exact⟨n,e,σ',h,q⟩
    ·rename_i he;simp only[he];exact⟨n,e,σ',h,q⟩
    ·simp at h
 ·intro h
  split at h
  · rename_i he
    obtain⟨n,e,σ',h,q⟩:=h
    exact⟨n+1,e,σ',by simp only[exec,aJ,he];exact h,q⟩
  · rename_i he
    obtain⟨n,e,σ',h,q⟩:=h
    exact⟨n+1,e,σ',by simp only[exec,aJ,he];exact h,q⟩
  ·exact h.elim
theorem Na {id:Nat} {b:aY} {Q:aR→St→Prop}:nV E (.block id b) σ Q=nV E b σ (LO id Q):=by
 simp only[nV,eq_iff_iff]
 constructor
 ·rintro⟨n,e,σ',h,q⟩
  cases n with
  | zero=>simp[exec] at h
  | succ n=>
    simp only[exec,aJ] at h
    split at h
    ·rename_i mO σ1 h1
     refine⟨n,_,_,h1,?_⟩
     simp only[LO]
     split at h
     ·rename_i hi
      simp only[aiT,aiX] at h
      obtain⟨rfl,rfl⟩:=h
      simp only[hi,if_true];exact q
     ·rename_i hi
      simp only[aiT,aiX] at h
      obtain⟨rfl,rfl⟩:=h
      simp only[hi,if_false];exact q
    ·rename_i hn
     refine⟨n,e,σ',h,?_⟩
     cases e with
     | exit mO=>exact absurd h (by simpa using hn mO σ')
     | normal=>exact q
     | ret=>exact q
 ·rintro⟨n,e,σ1,h,q⟩
  cases e with
  | exit mO=>
    simp only[LO] at q
    by_cases hi:mO=id
    ·simp only[hi,if_true] at q
     exact⟨n+1,_,_,by simp only[exec,aJ,h,hi,if_true],q⟩
    ·simp only[hi,if_false] at q
     exact⟨n+1,_,_,by simp only[exec,aJ,h,hi,if_false],q⟩
  | normal=>exact⟨n+1,_,_,by simp only[exec,aJ,h],q⟩
  | ret=>exact⟨n+1,_,_,by simp only[exec,aJ,h],q⟩
theorem Qe {b:aY} {Q:aR→St→Prop}:nV E (.loop b) σ Q=nV E b σ (andThen Q fun σ'=>nV E (.loop b) σ' Q):=by
 simp only[nV,eq_iff_iff]
 constructor
 ·rintro⟨n,e,σ',h,q⟩
  cases n with
  | zero=>simp[exec] at h
  | succ n=>
    simp only[exec,aJ] at h
    split at h
    ·rename_i σ1 h1
     exact⟨n,_,_,h1,n,e,σ',h,q⟩
    ·rename_i hn
     refine⟨n,e,σ',h,?_⟩
     cases e with
     | normal=>exact absurd h (by simpa using hn σ')
     | exit id=>exact q
     | ret=>exact q
 ·rintro⟨n,e,σ1,h,q⟩
  cases e with
  | normal=>
    obtain⟨m,e,σ',h',q⟩:=q
    refine⟨max n m+1,e,σ',?_,q⟩
    simp only[exec,aJ,cE (ajv n m) _ _ _ h]
    exact cE (ajj n m) _ _ _ h'
  | exit id=>exact⟨n+1,_,_,by simp only[exec,aJ,h],q⟩
  | ret=>exact⟨n+1,_,_,by simp only[exec,aJ,h],q⟩
theorem xU {b:aY} {Q:aR→St→Prop} (I:Nat→St→Prop) (hI: ∀k σ,I k σ→nV E b σ (andThen Q fun σ'=> ∃j,j<k∧I j σ')):
   ∀ (k:Nat) (σ:St),I k σ→nV E (.loop b) σ Q:=by
 intro k
 induction k using Nat.strongRecOn with
 | _ k ih=>
   intro σ h
   rw[Qe]
   refine fM (hI k σ h) fun e σ' he=> ?_
   cases e with
   | normal=>obtain⟨j,hj,h'⟩:=he;exact ih j hj σ' h'
   | exit id=>exact he
   | ret=>exact he
def fin (rs:List uA) (args:List V) (res:eZ):aR→St→Prop
 | .exit _,_=>False
 | .normal,σ=>leave ⟨0,0,[],rs,.skip,none⟩ args σ=some res
 | .ret,σ=>leave ⟨0,0,[],rs,.skip,none⟩ args σ=some res
theorem Ev.ext {f:Nat} {args:List V} {res:eZ} (h:E.ext f args=some res) (hh:E.hyb f=none:=by rfl):Ev E f args res:=⟨0,by simp[call,dt,eM,h,hh]⟩
end
end Go.AM
namespace Go.AM
section
variable {E:Env} {σ:St}
def wJ (E:Env):List b9→St→(List eL→St→Prop)→Prop
 | [],σ,Q=>Q [] σ
 | o::os,σ,Q=>zh E (cP E o) σ fun v σ' r w=>wJ E os (σ'.put o.dst v) fun fs σ''=>Q (fa o.op ⟨r,(match o.dst with| some d=> [.t d] | none=> [])++w⟩::fs) σ''
def wpx (E:Env) (os:List b9) (σ:St) (Q:List eL→St→Prop) (_:Tg os (σ,Q):= .mk):Prop:=wJ E os σ Q
def Jw (d:Option Nat) (w:List Loc):List Loc:=match d with| some d=> .t d::w| none=>w
theorem UQ {Q:List eL→St→Prop}:wpx E [] σ Q=Q [] σ:=rfl
theorem Qf {o:b9} {os:List b9} {Q:List eL→St→Prop}:wpx E (o::os) σ Q=zh E (cP E o) σ fun v σ' r w=>wpx E os (σ'.put o.dst v) fun fs σ''=>Q (fa o.op ⟨r,Jw o.dst w⟩::fs) σ'':=by
 have: ∀w,(match o.dst with| some d=> [Loc.t d] | none=> [])++w=Jw o.dst w:=by intro w;cases o.dst<;>rfl
 have h2: (fun (v:V) (σ':St) (r w:List Loc)=>wJ E os (σ'.put o.dst v) fun fs σ''=>Q (fa o.op ⟨r,(match o.dst with| some d=> [.t d] | none=> [])++w⟩::fs) σ'')=(fun v σ' r w=>wJ E os (σ'.put o.dst v) fun fs σ''=>Q (fa o.op ⟨r,Jw o.dst w⟩::fs) σ''):=by
  funext v σ' r w;rw[this]
 show zh E (cP E o) σ (fun (v:V) (σ':St) (r w:List Loc)=>wJ E os (σ'.put o.dst v) fun fs σ''=>Q (fa o.op ⟨r,(match o.dst with| some d=> [.t d] | none=> [])++w⟩::fs) σ'')=_
 rw[h2];rfl
def W6:List (List Nat)→List (List Nat)→List eL→List eL→Bool
 | [],_,_,_=>true
 | p::ps,before,ck,f::rest=> (fits ck (closure before p) f ck.length &&p.all (· <ck.length)) &&W6 ps (before++[closure before p]) (ck++[f]) rest
 | _::_,_,_,[]=>false
theorem pX {a:Act} {Q Q':V→St→List Loc→List Loc→Prop} (h:zh E a σ Q) (k: ∀v σ' r w,Q v σ' r w→Q' v σ' r w):zh E a σ Q':=by
 obtain⟨n,v,σ',h1,h2⟩:=h
 exact⟨n,v,σ',h1,k _ _ _ _ h2⟩
theorem uB: ∀ {os:List b9} {σ:St} {Q Q':List eL→St→Prop},wJ E os σ Q→(∀fs σ',Q fs σ'→Q' fs σ')→wJ E os σ Q'
 | [],_,_,_,h,k=>k _ _ h
 | o::os,_,_,_,h,k=>by
   simp only[wJ] at h ⊢
   exact pX h fun v σ' r w h'=>uB h' fun fs σ'' h''=>k _ _ h''
theorem Qg {Q:St→Prop}: ∀ {os:List b9} {σ:St} {ck:List eL} {before:List (List Nat)},
   wJ E os σ (fun fs σ'=>W6 (os.map (·.pre)) before ck fs=true∧Q σ')→W5 E ck before os σ Q
 | [],_,_,_,h=>by rw[UN];exact h.2
 | o::os,σ,ck,before,h=>by
   rw[Qb]
   simp only[wJ,List.map_cons,W6,Bool.and_eq_true] at h
   refine pX h fun v σ' r w h'=> ?_
   have h1:wJ E os (σ'.put o.dst v) (fun fs σ''=> (fits ck (closure before o.pre) (fa o.op ⟨r,(match o.dst with| some d=> [.t d] | none=> [])++w⟩) ck.length &&o.pre.all (· <ck.length))=true):=
    uB h' fun fs σ'' hh=>by
      have:=hh.1
      simp only[List.map_cons,W6,Bool.and_eq_true] at this
      simp only[Bool.and_eq_true];exact this.1
   have const: ∀ {os:List b9} {σ:St} {p:Prop},wJ E os σ (fun _ _=>p)→p:=by
    intro os
    induction os with
    | nil=>intro σ p h;exact h
    | cons o os ih=>
      intro σ p h
      simp only[wJ] at h
      obtain⟨n,v,σ',_,h2⟩:=h
      exact ih h2
   refine⟨const h1,Qg (uB h' fun fs σ'' hh=> ⟨by have:=hh.1;simp only[List.map_cons,W6,Bool.and_eq_true] at this;exact this.2,hh.2⟩)⟩
theorem ED {ops:List b9} {Q:aR→St→Prop} (h:wpx E ops σ (fun fs σ'=>W6 (ops.map (·.pre)) [] [] fs=true∧Q .normal σ')):nV E (.drawn ops) σ Q:=by
 rw[M9];exact Qg h
theorem Gt {t:Nat}:bu σ (.tmp t)=σ.T t:=rfl
theorem Cr {v:V}:bu σ (.const v)=v:=rfl
theorem kb: ∀ {cs:List V},V.al cs=true→ ∀ {x:V},x ∈ cs→x.aw=true
 | [],_,x,h=>by simp at h
 | c::cs,h,x,hx=>by
   simp only[V.al,Bool.and_eq_true] at h
   rcases ai0.1 hx with rfl| hx
   ·exact h.1
   ·exact kb h.2 hx
theorem tu: ∀ {cs:List V},(∀x ∈ cs,V.aw x=true)→V.al cs=true
 | [],_=>rfl
 | c::cs,h=>by
   simp only[V.al,Bool.and_eq_true]
   exact⟨h c abW,tu fun x hx=>h x (by simp[hx])⟩
theorem ef {args:List V} (h:V.al args=true):enter args=⟨fun t=>args.getD t dO,fun _=>bH⟩:=by
 have key: ∀ (t:Nat) (a:V),args[t]? =some a→a.aw=true:=fun t a ht=>kb h (List.mem_of_getElem? ht)
 unfold enter
 congr 1
 ·funext t
  cases ha:args[t]? with
  | none=>simp[List.getD,ha]
  | some a=>have:=key t a ha;simp only[List.getD,ha,akS];cases a<;>simp_all[V.aw]
 ·funext t
  cases ha:args[t]? with
  | none=>rfl
  | some a=>have:=key t a ha;cases a<;>simp_all[V.aw]
theorem Jy {d:Nat} {v:V} {k:V→List Nat→Act} (h:v.aw=true):eh d v k=k v []:=by
 cases d<;>simp[eh,h]
end
def dI (sz lim:Nat):List V→Option eZ
 | [.nils]=>some ⟨.own sz [],[]⟩
 | [.lit sz' xs]=>if sz'=sz∧xs.length≤lim then some ⟨.own sz xs,[]⟩ else none
 | _=>none
def C1:List V→Option eZ
 | [.float b]=>match FloatKind.f64.format.sqrt b with
   | some r=>some ⟨.float r,[]⟩
   | none=>none
 | _=>none
theorem kr {O:Nat→Obj}: ∀ {args:List V} {i:Nat},V.al args=true→cO O i args=some []
 | [],_,_=>rfl
 | a::asq,i,h=>by
   simp only[V.al,Bool.and_eq_true] at h
   have:=kr (O:=O) (i:=i+1) h.2
   cases a<;>simp_all[cO,V.aw]
def Gu (sz:Nat) (xs:List V) (v:V):Prop:=v= .lit sz xs∨v= .nils∧xs=[]
theorem Gu.pure {sz:Nat} {xs:List V} {v:V} (h:Gu sz xs v):v.aw=true:=by
 rcases h with rfl| ⟨rfl,_⟩ <;>rfl
theorem Gu.len {sz:Nat} {xs:List V} {v:V} (h:Gu sz xs v):UR v=some (.int .i64 xs.length):=by
 rcases h with rfl| ⟨rfl,rfl⟩ <;>rfl
theorem Gu.lit {sz:Nat} {xs:List V}:Gu sz xs (.lit sz xs):= .inl rfl
theorem Gu.aT {sz:Nat} {xs:List V} {v:V} (h:Gu sz xs v):v.aT=true:=by
 rcases h with rfl| ⟨rfl,_⟩ <;>rfl
def EE (sz:Nat) (v i:V):Act:=
 match v,i with
 | .sl r g off len,.int _ n=> .bR r fun o=>if 0≤n∧n<len∧o.sz=sz∧o.gen=g then .done (.ptr r g (off+n.toNat) 0) else .fail
 | .lit sz' xs,.int _ n=>if 0≤n∧sz'=sz then match xs[n.toNat]? with
    | some e=> .done (.eptr e 0)
    | none=> .fail
   else .fail
 | .litk sz' xs,.int _ n=>if 0≤n∧sz'=sz∧0 <sz then match xs[n.toNat]? with
    | some e=> .done (.epk n.toNat sz e 0)
    | none=> .fail
   else .fail
 | _,_=> .fail
theorem Cs {E:Env} {sz:Nat} {x i:aU}:aM E (.indexAddr sz x i)=ev x fun v=>ev i fun i=>EE sz v i:=rfl
def EF ( sz:Nat) (v:V) (l h m:Option V):Act:=
 match v with
 | .sl r g off len=> .bR r fun o=>match o.es with
   | some es=>if o.gen=g∧o.sz=sz then
      match cQ 0 l,cQ len h,m with
      | some l,some h,none=>if l≤h∧off+h≤es.length then .done (.sl r g (off+l) (h - l)) else .fail
      | some l,some h',some m=>match h,cQ 0 (some m) with
        | some _,some m=>if l≤h'∧h'≤m∧off+m≤es.length then .done (if m=l then .nils else .any) else .fail
        | _,_=> .fail
      | _,_,_=> .fail
     else .fail
   | none=> .fail
 | v=>eP (zL sz v l h m)
theorem Nb {E:Env} {sz:Nat} {x:aU} {lo hi mx:Option aU}:aM E (.slice sz x lo hi mx)=ev x fun v=>PJ lo fun l=>PJ hi fun h=>PJ mx fun m=>EF sz v l h m:=rfl
def Jz (r sz lim:Nat) (s:V) (ys:List V):Act:=
 if ys.all (aV · sz) &&decide (0 <sz) then match s with
  | .nils=>if ys.isEmpty then .done .nils else if ys.length≤lim then
      .bR r fun o=> .bO r {gen:=o.gen+1,sz,arr:=true,fz:=false,es:=some ys} (.done (.sl r (o.gen+1) 0 ys.length)) else .fail
  | .lit sz' xs=>if ys.isEmpty then .done (.lit sz' xs) else .fail
  | .sl r' g off len=> .bR r' fun o=>match o.es with
    | some es=>if o.gen=g∧o.arr=true∧o.fz=false∧o.sz=sz∧off+len≤es.length∧len+ys.length≤lim then
        if off+len+ys.length≤es.length then
             .bO r' {o with es:=some (overwrite es (off+len) ys)} (.done (.sl r' g off (len+ys.length)))
        else
             .bO r' {o with gen:=g+1,es:=some (aG es off len++ys)} (.done (.sl r' (g+1) 0 (len+ys.length)))
      else .fail
    | none=> .fail
  | _=> .fail
  else .fail
theorem JA {E:Env} {r sz lim:Nat} {s x:aU}:aM E (.append r sz lim s x)=ev s fun s=>ev x fun x=>content sz x fun ys=>nJ ys fun ys=>Jz r sz lim s ys:=rfl
theorem gG {α:Type} (f:α→V) (l:List α) (a b:Nat):AM.aG (l.map f) a b=((l.drop a).take b).map f:=by
 simp[AM.aG,List.map_take,List.map_drop]
theorem zM {xs:List V} {n:Nat} (h:n=xs.length):AM.aG xs 0 n=xs:=by
 subst h;simp[AM.aG]
def firstIdx {α:Type} (p:α→Bool) (xs:List α):Int:=match xs.findIdx? p with
 | some i=>i
 | none=> -1
theorem zN {α:Type} {p:α→Bool} {xs:List α} {i:Nat} {x:α} (h: ∀j y,j<i→xs[j]? =some y→p y=false) (hx:xs[i]? =some x) (hp:p x=true):firstIdx p xs=i:=by
 have:xs.findIdx? p=some i:=by
  rw[ajM]
  obtain⟨hl,hv⟩:=aiS.1 hx
  refine⟨hl,by rw[hv];exact hp,fun j hj=> ?_⟩
  have:=h j _ hj (aiW abV)
  simp[this]
 simp[firstIdx,this]
theorem firstIdx_none {α:Type} {p:α→Bool} {xs:List α} (h: ∀ (j:Nat) (y:α),xs[j]? =some y→p y=false):firstIdx p xs= -1:=by
 have:xs.findIdx? p=none:=by
  rw[akP]
  intro x hx
  obtain⟨j,hj⟩:=aji.1 hx
  exact h j x hj
 simp[firstIdx,this]
theorem LQ (a b:Int): (a==b)=decide (a=b):=by
 by_cases h:a=b
 ·simp[h]
 ·simp[h]
theorem aei (a b:Int): (a !=b)= !decide (a=b):=by simp[bne,LQ]
theorem wrap64 {n:Int} (h0: -9223372036854775808≤n) (h1:n≤9223372036854775807):IntKind.i64.wrap n=n:=by
 simp[IntKind.wrap,IntKind.bits,IntKind.signed]
 omega
end Go.AM
namespace Go.AM
section
variable {α:Type}
def JB (le:α→α→Bool) (x:α):List α→List α
 | []=> [x]
 | y::ys=>if le x y then x::y::ys else y::JB le x ys
def pJ (le:α→α→Bool):List α→List α
 | []=> []
 | x::xs=>JB le x (pJ le xs)
theorem wK (le:α→α→Bool) (x:α): ∀l:List α,(JB le x l).Perm (x::l)
 | []=> .refl _
 | y::ys=>by
   unfold JB
   split
   ·exact .refl _
   ·exact((wK le x ys).cons y).trans (.swap x y ys)
theorem oQ (le:α→α→Bool): ∀l:List α,(pJ le l).Perm l
 | []=> .refl _
 | x::xs=> (wK le x _).trans ((oQ le xs).cons x)
theorem xV {le:α→α→Bool} (ht: ∀a b c,le a b=true→le b c=true→le a c=true) (hl: ∀a b,(le a b || le b a)=true) (x:α): ∀ {l:List α},l.Pairwise (le · ·)→(JB le x l).Pairwise (le · ·)
 | [],_=>by simp[JB]
 | y::ys,h=>by
   unfold JB
   split
   ·rename_i LR
    rw[ajW] at h ⊢
    exact⟨fun z hz=>by
     rcases ai0.1 hz with rfl| hz
     ·exact LR
     ·exact ht _ _ _ LR (h.1 z hz),ajW.2 h⟩
   ·rename_i LR
    rw[ajW] at h ⊢
    refine⟨fun z hz=> ?_,xV ht hl x h.2⟩
    have hz:=(wK le x ys).mem_iff.1 hz
    rcases ai0.1 hz with rfl| hz
    ·have:=hl z y
     simp only[ajX] at this
     exact this.resolve_left LR
    ·exact h.1 z hz
theorem oR {le:α→α→Bool} (ht: ∀a b c,le a b=true→le b c=true→le a c=true) (hl: ∀a b,(le a b || le b a)=true): ∀l:List α,(pJ le l).Pairwise (le · ·)
 | []=>by simp[pJ]
 | x::xs=>xV ht hl x (oR ht hl xs)
theorem C2 {le:α→α→Bool} (ha: ∀a b,le a b=true→le b a=true→a=b): ∀ {l l':List α},l.Perm l'→l.Pairwise (le · ·)→l'.Pairwise (le · ·)→l=l':=by
 intro l l' hp h h'
 exact hp.eq_of_pairwise (fun a b _ _ h1 h2=>ha a b h1 h2) h h'
theorem yR {le:α→α→Bool} (ha: ∀a b,le a b=true→le b a=true→a=b) (ht: ∀a b c,le a b=true→le b c=true→le a c=true) (hl: ∀a b,(le a b || le b a)=true) (l:List α):l.mergeSort le=pJ le l:=
 C2 ha ((List.mergeSort_perm l le).trans (oQ le l).symm) (List.pairwise_mergeSort ht hl l) (oR ht hl l)
end
def PK (x y:Int):Bool:=decide (x≤y)
def ew (l:List Int):List Int:=pJ PK l
theorem Gv (l:List Int): (l.mergeSort fun x y=>decide (x≤y))=ew l:=
 yR (le:=PK) (fun a b h1 h2=>by simp[PK] at h1 h2;omega) (fun a b c h1 h2=>by simp[PK] at h1 h2 ⊢;omega) (fun a b=>by simp[PK];omega) l
def oS:List V→Option (List Int)
 | []=>some []
 | .int .i64 n::vs=> (oS vs).map (n:: ·)
 | _=>none
theorem wL: ∀ {vs:List V} {zs:List Int},oS vs=some zs→vs=zs.map (V.int .i64)
 | [],zs,h=>by simp[oS] at h;subst h;rfl
 | v::vs,zs,h=>by
   unfold oS at h
   split at h
   ·rename_i heq;simp at heq
   ·rename_i n vs' heq
    injection heq with e1 e2
    subst e1;subst e2
    rw[aiU] at h
    obtain⟨ys,h1,rfl⟩:=h
    rw[wL h1];rfl
   ·simp at h
theorem tw: ∀zs:List Int,oS (zs.map (V.int .i64))=some zs
 | []=>rfl
 | z::zs=>by simp only[List.map_cons,oS,tw zs,ai4]
def Gw:List V→Option eZ
 | [.msl 1 es 0 len]=>if len=es.length then match oS es with
     | some zs=>if zs.length< 4611686018427387904 then some ⟨.tuple [],[(0,(ew zs).map (V.int .i64))]⟩ else none
     | none=>none
   else none
 | _=>none
end Go.AM
namespace Go.AM
def aaI (tab:List (Nat×aQ)) (f:Nat):Option aQ:=(tab.find? (·.1==f)).map (·.2)
def W7 (tab:List (Nat× (List V→Option eZ))) (f:Nat) (asq:List V):Option eZ:=match tab.find? (·.1==f) with
 | some p=>p.2 asq
 | none=>none
structure Uu where
 h: (Nat→List V→Option eZ)→List V→Option eZ
 mono: ∀ (C C':Nat→List V→Option eZ),(∀g vs r,C g vs=some r→C' g vs=some r)→ ∀vs r,h C vs=some r→h C' vs=some r
def LS (tab:List (Nat×Uu)) (f:Nat):Option ((Nat→List V→Option eZ)→List V→Option eZ):=(tab.find? (·.1==f)).map (·.2.h)
theorem JC (tab:List (Nat×Uu)): ∀f h,LS tab f=some h→ ∀ (C C':Nat→List V→Option eZ),(∀g vs r,C g vs=some r→C' g vs=some r)→ ∀vs r,h C vs=some r→h C' vs=some r:=by
 intro f h hf
 unfold LS at hf
 rw[aiU] at hf
 obtain⟨p,_,rfl⟩:=hf
 exact p.2.mono
def Qh (tab:List (Nat× (List V→Option (List (List V))))) (g:Nat) (caps:List V):Option (List (List V)):=match tab.find? (·.1==g) with
 | some p=>p.2 caps
 | none=>none
abbrev Yb:=List V→List V→Option (V×List V)
def Qi (tab:List (Nat×Yb)) (f:Nat):Option Yb:=(tab.find? (·.1==f)).map (·.2)
def mkEM (tab:List (Nat×aQ)) (ext:List (Nat× (List V→Option eZ))) (hyb:List (Nat×Uu)) (iter:List (Nat× (List V→Option (List (List V))))) (em:List (Nat×Yb)):Env:={fn:=aaI tab,ext:=W7 ext,hyb:=LS hyb,mono:=JC hyb,iter:=Qh iter,EG:=Qi em}
def mkE (tab:List (Nat×aQ)) (ext:List (Nat× (List V→Option eZ))) (hyb:List (Nat×Uu)) (iter:List (Nat× (List V→Option (List (List V))))):Env:=mkEM tab ext hyb iter []
abbrev od (d:Nat) (x:uC):b9:=⟨some d,x,none,[]⟩
abbrev ow (x:uC):b9:=⟨none,x,none,[]⟩
abbrev op (d:Nat) (x:uC) (p:List Nat):b9:=⟨some d,x,none,p⟩
abbrev ic (n:Int):aU:= .const (.int .i64 n)
abbrev fc (n:Nat):aU:= .const (.fn n [])
end Go.AM
namespace Go.AM
def fu:Nat→List V→List (List V)
 | i,p::q::rest=> [.int .i64 (i:Int),.agg (p.cells++q.cells)]::fu (i+1) (q::rest)
 | _,_=> []
def LU:List V→Option (List (List V))
 | [.eptr (.lit 2 ps) 0]=>if ps.length< 4611686018427387904 then some (fu 0 ps) else none
 | [.eptr .nils 0]=>some []
 | _=>none
end Go.AM
namespace Go.AM
def yS (skip:Bool) (n:Int):Nat→List V→List (List V)
 | i,p::q::rest=> (if skip && (decide ((i:Int)=n - 1) || decide ((i:Int)=n)) then [] else [[p,q]])++yS skip n (i+1) (q::rest)
 | _,_=> []
def US:V→Bool
 | .agg [_,_]=>true
 | _=>false
def Gx (e n:Int):Nat→List V→Option (List (List V))
 | _,[]=>some []
 | k,.agg [.int .i64 _,.lit 2 ps,.int .i64 _,.int .i64 _]::es=>if ps.length< 4611686018427387904∧ps.all US=true then(Gx e n (k+1) es).map (yS (decide ((k:Int)=e)) n 0 ps++ ·) else none
 | _,_=>none
def Qj:List V→Option (List (List V))
 | [.eptr (.agg [.lit 4 es,_,_,_]) 0,.eptr (.agg (.int .i64 e:: .int .i64 n::_)) 0]=>if es.length< 4611686018427387904∧0≤n∧n< 4611686018427387904 then Gx e n 0 es else none
 | _=>none
end Go.AM
namespace Go.AM
def jO:Nat→List V→V→Option (V×List V)
 | 0,_,_=>none
 | n+1,es,x=>match cM [1,1,1] x es with
   | some none=>some (x,es)
   | some (some y)=>match du [1,1,1] y x with
     | some true=>some (x,es)
     | some false=>match jO n es y with
       | some (r,es')=> (dP [1,1,1] x r es').map (r,·)
       | none=>none
     | none=>none
   | none=>none
def bM:V→Bool
 | .agg [.int .i64 _,.int .i64 _,.int .i64 _]=>true
 | _=>false
def jf:V→Bool
 | .tuple [k,v]=>bM k &&bM v
 | _=>false
def C3 (es asq:List V):Option (V×List V):=match asq with
 | [x]=>if bM x &&es.all jf then jO 1000000 es x else none
 | _=>none
def C4 (es asq:List V):Option (V×List V):=match asq with
 | [a,b]=>if bM a &&bM b &&es.all jf then(match jO 1000000 es a with
     | some (ra,Uv)=>match jO 1000000 Uv b with
       | some (rb,Ct)=> (dP [1,1,1] ra rb Ct).map (.tuple [],·)
       | none=>none
     | none=>none) else none
 | _=>none
end Go.AM
namespace Go.AM
def JD:V→Option Int
 | .agg [.int .i64 _,.int .i64 a,.int .i64 _,.int .i64 _,.int .i64 _]=>some a
 | _=>none
def pY:V→Bool
 | .lit _ _=>true
 | _=>false
def kS:V→Bool
 | .agg [e,f,w,p]=>pY e && (pY f && (pY w &&pY p))
 | _=>false
def gH (C:Nat→List V→Option eZ) (d:Int):Nat→V→Int→List V→Option (List V)
 | 0,_,_,evs=>some evs
 | n+1,m,b,evs=>match C 644 [m,.int .i64 d,.int .i64 b] with
   | some ⟨.tuple [e,.bool true],[]⟩=> (match JD e,C 645 [m,e] with
     | some a,some ⟨.tuple [m',.int .i64 err],[]⟩=>
       if kS m'=true then(if err=0 then gH C d n m' a (evs++[e]) else some evs) else none
     | _,_=>none)
   | some ⟨.tuple [e,.bool false],[]⟩=> (match JD e with
     | some _=>some evs
     | none=>none)
   | _=>none
def Gy (d:Int):List V→V
 | []=> .agg [.int .i64 d,.lit 5 []]
 | evs=> .agg [.int .i64 d,.own 5 evs]
def zO (C:Nat→List V→Option eZ):List V→Option eZ
 | [m,.int .i64 d]=>if kS m=true then(gH C d 200 m 0 []).map fun evs=> ⟨Gy d evs,[]⟩ else none
 | _=>none
theorem zP {C C':Nat→List V→Option eZ} (h: ∀g vs r,C g vs=some r→C' g vs=some r) {d:Int}: ∀ {n:Nat} {m:V} {b:Int} {evs r:List V},gH C d n m b evs=some r→gH C' d n m b evs=some r
 | 0,_,_,_,_,hr=>hr
 | n+1,m,b,evs,r,hr=>by
   unfold gH at hr ⊢
   rcases h1:C 644 [m,.int .i64 d,.int .i64 b] with _| x
   ·simp only[h1] at hr;cases hr
   ·rw[h _ _ _ h1]
    rw[h1] at hr
    split at hr
    ·rename_i e he
     injection he with he
     subst he
     rcases ha:JD e with _| a
     ·simp only[ha] at hr;cases hr
     · rcases h2:C 645 [m,e] with _| y
       ·simp only[ha,h2] at hr;cases hr
       ·simp only[ha,h _ _ _ h2]
        simp only[ha,h2] at hr
        split at hr
        ·rename_i a' m' err e1 e2
         injection e1 with e1
         injection e2 with e2
         subst e1 e2
         by_cases hm:kS m'=true
         ·rw[if_pos hm] at hr ⊢
          by_cases he:err=0
          ·rw[if_pos he] at hr ⊢
           exact zP h hr
          ·rw[if_neg he] at hr ⊢;exact hr
         ·rw[if_neg hm] at hr;cases hr
        ·cases hr
    ·rename_i e he
     exact hr
    ·cases hr
def LV:Uu where
 h:=zO
 mono:=fun C C' h vs r hr=>by
  unfold zO at hr ⊢
  split at hr
  ·split at hr
   ·rename_i hc
    rw[aiU] at hr
    obtain⟨evs,h1,h2⟩:=hr
    simp only[if_pos hc,zP h h1,ai4,h2]
   ·cases hr
  ·cases hr
end Go.AM
namespace Go.AM
structure SS where
 T:List (Nat×V)
 O:List (Nat×Obj)
def lk {α:Type}:List (Nat×α)→Nat→Option α
 | [],_=>none
 | (k,v)::l,n=>bif Nat.beq k n then some v else lk l n
def SS.On (S:SS) (σ:St):Prop:=(∀t v,lk S.T t=some v→σ.T t=v)∧(∀r o,lk S.O r=some o→σ.O r=o)
def SS.put (S:SS) (d:Option Nat) (v:V):SS:=match d with
 | some d=> ⟨(d,v)::S.T,S.O⟩
 | none=>S
def SS.bO (S:SS) (r:Nat) (o:Obj):SS:=⟨S.T,(r,o)::S.O⟩
theorem fb {α:Type} {p:Nat×α} {l:List (Nat×α)} {n:Nat}:lk (p::l) n=if p.1=n then some p.2 else lk l n:=by
 obtain⟨k,v⟩:=p
 simp only[lk]
 by_cases h:k=n
 ·simp[h]
 ·have:Nat.beq k n=false:=by
   cases hb:Nat.beq k n with
   | false=>rfl
   | true=>exact absurd (ajs hb) h
  simp[h,this]
theorem SS.On.put {S:SS} {σ:St} (h:S.On σ) (d:Option Nat) (v:V): (S.put d v).On (σ.put d v):=by
 cases d with
 | none=>exact h
 | some d=>
   refine⟨fun t x hx=> ?_,fun r o ho=> ?_⟩
   ·simp only[SS.put,fb] at hx
    show da σ.T d v t=x
    unfold da
    by_cases e:d=t
    ·simp only[e,if_true,aiT] at hx ⊢;exact hx
    ·rw[if_neg e] at hx;rw[if_neg (aj4 e)];exact h.1 t x hx
   ·exact h.2 r o ho
theorem SS.On.bO {S:SS} {σ:St} (h:S.On σ) (r:Nat) (o:Obj): (S.bO r o).On (σ.bO r o):=by
 refine⟨fun t x hx=>h.1 t x hx,fun r' x hx=> ?_⟩
 simp only[SS.bO,fb] at hx
 show da σ.O r o r'=x
 unfold da
 by_cases e:r=r'
 ·simp only[e,if_true,aiT] at hx ⊢;exact hx
 ·rw[if_neg e] at hx;rw[if_neg (aj4 e)];exact h.2 r' x hx
inductive bF:Type 1 where
 | done (v:V)
 | fail
 | nW (t:Nat) (k:V→bF)
 | bR (r:Nat) (k:Obj→bF)
 | bO (r:Nat) (o:Obj) (k:bF)
 | uD (r:Nat) (k:Nat→bF)
 | call (f:Nat) (args:List V) (k:eZ→bF)
 | bW (p:Prop) (k:bF)
 | ex (α:Type) (p:α→Prop) (k:α→bF)
 | ite (b:Bool) (x y:bF)
 | alt (x y:bF)
 | all (k:Nat→bF)
 | esc (a:Act)
def Ref:bF→Act→Prop
 | .done v,a=>a= .done v
 | .fail,_=>True
 | .nW t k,a=> ∃k0,a= .nW t k0∧ ∀v,Ref (k v) (k0 v)
 | .bR r k,a=> ∃k0,a= .bR r k0∧ ∀o,Ref (k o) (k0 o)
 | .bO r o k,a=> ∃k0,a= .bO r o k0∧Ref k k0
 | .uD r k,a=> ∃k0,a= .bR r k0∧ ∀o:Obj,Ref (k (o.gen+1)) (k0 o)
 | .call f asq k,a=> ∃k0,a= .call f asq k0∧ ∀res,Ref (k res) (k0 res)
 | .bW p k,a=>p→Ref k a
 | .ex _ p k,a=> ∀x,p x→Ref (k x) a
 | .ite b x y,a=> (b=true→Ref x a)∧(b=false→Ref y a)
 | .alt x y,a=>Ref x a∧Ref y a
 | .all k,a=> ∃n,Ref (k n) a
 | .esc b,a=>a=b
structure fN (p q:Prop):Prop where
 side:p
 rest:q
inductive bZ {α:Type} (p q:α→Prop):Prop
 | mk (x:α) (h:p x) (k:q x)
structure Br (b:Bool) (p q:Prop):Prop where
 yes:b=true→p
 no:b=false→q
inductive aC (E:Env) (f:Nat) (asq:List V) (q:eZ→Prop):Prop
 | mk (res:eZ) (h:Ev E f asq res) (k:q res)
theorem Br.tt {p q:Prop} (h:p):Br true p q:=⟨fun _=>h,fun h=>by cases h⟩
theorem Br.ff {p q:Prop} (h:q):Br false p q:=⟨fun h=> (by cases h),fun _=>h⟩
theorem Br.dec {c:Prop} {_:Decidable c} {p q:Prop} (h:c→p) (k: ¬c→q):Br (decide c) p q:=⟨fun e=>h (of_decide_eq_true e),fun e=>k (of_decide_eq_false e)⟩
theorem Br.aej {c:Prop} {_:Decidable c} {p q:Prop} (h: ¬c→p) (k:c→q):Br (!decide c) p q:=by
 refine⟨fun e=>h ?_,fun e=>k ?_⟩
 ·simpa using e
 ·simpa using e
theorem Br.t {c:Prop} {_:Decidable c} {p q:Prop} (h:c) (k:p):Br (decide c) p q:=⟨fun _=>k,fun e=>absurd h (of_decide_eq_false e)⟩
theorem Br.f {c:Prop} {_:Decidable c} {p q:Prop} (h: ¬c) (k:q):Br (decide c) p q:=⟨fun e=>absurd (of_decide_eq_true e) h,fun _=>k⟩
theorem Br.nt {c:Prop} {_:Decidable c} {p q:Prop} (h: ¬c) (k:p):Br (!decide c) p q:=⟨fun _=>k,fun e=>absurd ((by simpa using e:c)) h⟩
theorem Br.nf {c:Prop} {_:Decidable c} {p q:Prop} (h:c) (k:q):Br (!decide c) p q:=⟨fun e=>absurd h ((by simpa using e: ¬c)),fun _=>k⟩
theorem Br.bt {b:Bool} {p q:Prop} (h:b=true) (k:p):Br b p q:=⟨fun _=>k,fun e=> (by rw[h] at e;cases e)⟩
theorem Br.bf {b:Bool} {p q:Prop} (h:b=false) (k:q):Br b p q:=⟨fun e=> (by rw[h] at e;cases e),fun _=>k⟩
abbrev KK:=V→SS→List Loc→List Loc→Prop
structure Nc (E:Env) (a:Act) (S:SS) (Q:KK):Prop where
 h: ∀σ,S.On σ→zh E a σ fun v σ' r w=> ∃S',S'.On σ'∧Q v S' r w
def fy (E:Env):bF→SS→KK→Prop
 | .done v,S,Q=>Q v S [] []
 | .fail,_,_=>False
 | .nW t k,S,Q=>match lk S.T t with
   | some v=>fy E (k v) S fun v S' r w=>Q v S' (.t t::r) w
   | none=>False
 | .bR t k,S,Q=>match lk S.O t with
   | some v=>fy E (k v) S fun v S' r w=>Q v S' (.o t::r) w
   | none=>False
 | .bO t o k,S,Q=>match S with
   | ⟨T,O⟩=>fy E k ⟨T,(t,o)::O⟩ fun v S' r w=>Q v S' r (.o t::w)
 | .uD t k,S,Q=> ∀g:Nat,fy E (k g) S fun v S' r w=>Q v S' (.o t::r) w
 | .call f asq k,S,Q=>aC E f asq fun res=>fy E (k res) S Q
 | .bW p k,S,Q=>fN p (fy E k S Q)
 | .ex _ p k,S,Q=>bZ p fun x=>fy E (k x) S Q
 | .ite b x y,S,Q=>Br b (fy E x S Q) (fy E y S Q)
 | .alt x y,S,Q=>fy E x S Q∨fy E y S Q
 | .all k,S,Q=> ∀n,fy E (k n) S Q
 | .esc a,S,Q=>Nc E a S Q
theorem dc {E:Env}: ∀ {a2:bF} {a:Act} {S:SS} {Q:KK} {σ:St},Ref a2 a→fy E a2 S Q→S.On σ→zh E a σ fun v σ' r w=> ∃S',S'.On σ'∧Q v S' r w
 | .done v,a,S,Q,σ,hr,h,ho=>by
   simp only[Ref] at hr;subst hr
   rw[P7];exact⟨S,ho,h⟩
 | .fail,_,_,_,_,_,h,_=>by simp[fy] at h
 | .nW t k,a,S,Q,σ,hr,h,ho=>by
   obtain⟨k0,rfl,hk⟩:=hr
   rw[P8]
   simp only[fy] at h
   split at h
   ·rename_i v hv
    rw[ho.1 t v hv]
    exact dc (hk v) h ho
   ·exact h.elim
 | .bR t k,a,S,Q,σ,hr,h,ho=>by
   obtain⟨k0,rfl,hk⟩:=hr
   rw[Gs]
   simp only[fy] at h
   split at h
   ·rename_i v hv
    rw[ho.2 t v hv]
    exact dc (hk v) h ho
   ·exact h.elim
 | .bO t o k,a,S,Q,σ,hr,h,ho=>by
   obtain⟨k0,rfl,hk⟩:=hr
   rw[P9]
   simp only[fy] at h
   obtain⟨T,O⟩:=S
   exact dc hk h (ho.bO t o)
 | .uD t k,a,S,Q,σ,hr,h,ho=>by
   obtain⟨k0,rfl,hk⟩:=hr
   rw[Gs]
   simp only[fy] at h
   exact dc (hk (σ.O t)) (h _) ho
 | .call f asq k,a,S,Q,σ,hr,h,ho=>by
   obtain⟨k0,rfl,hk⟩:=hr
   rw[Qa]
   simp only[fy] at h
   obtain⟨res,he,h⟩:=h
   exact⟨res,he,dc (hk res) h ho⟩
 | .bW p k,a,S,Q,σ,hr,h,ho=>dc (hr h.1) h.2 ho
 | .ex α p k,a,S,Q,σ,hr,h,ho=>by
   simp only[fy] at h
   obtain⟨x,hx,h⟩:=h
   exact dc (hr x hx) h ho
 | .ite b x y,a,S,Q,σ,hr,h,ho=>by
   simp only[fy] at h
   simp only[Ref] at hr
   cases b with
   | true=>exact dc (hr.1 rfl) (h.1 rfl) ho
   | false=>exact dc (hr.2 rfl) (h.2 rfl) ho
 | .alt x y,a,S,Q,σ,hr,h,ho=>by
   simp only[fy] at h
   rcases h with h| h
   ·exact dc hr.1 h ho
   ·exact dc hr.2 h ho
 | .all k,a,S,Q,σ,hr,h,ho=>by
   obtain⟨n,hr⟩:=hr
   exact dc hr (h n) ho
 | .esc b,a,S,Q,σ,hr,h,ho=>by
   simp only[Ref] at hr
   subst hr
   exact h.h σ ho
end Go.AM
namespace Go.AM
def nth {α:Type}:List α→Nat→Option α
 | [],_=>none
 | x::_,0=>some x
 | _::l,n+1=>nth l n
theorem JG {α:Type}: ∀ (l:List α) (n:Nat),nth l n=l[n]?
 | [],_=>by simp[nth]
 | _::_,0=>by simp[nth]
 | _::l,n+1=>by simp[nth,JG l n]
def force {α:Type} {β:Type 1}:List α→(List α→β)→β
 | [],k=>k []
 | x::l,k=>force l fun l'=>k (x::l')
theorem force_eq {α:Type} {β:Type 1}: ∀ (l:List α) (k:List α→β),force l k=k l
 | [],_=>rfl
 | _::l,k=>by simp only[force,force_eq l]
def EH {α:Type}:List α→Nat→α→List α
 | [],_,_=> []
 | _::l,0,y=>y::l
 | x::l,n+1,y=>x::EH l n y
theorem zj {α:Type}: ∀ (l:List α) (n:Nat) (y:α),EH l n y=l.set n y
 | [],_,_=>by simp[EH]
 | _::_,0,_=>by simp[EH]
 | _::l,n+1,y=>by simp[EH,zj l n y]
def iC {α:Type}:List α→Nat→Bool
 | [],0=>true
 | _::l,n+1=>iC l n
 | _,_=>false
theorem nX {α:Type}: ∀ {l:List α} {n:Nat},iC l n=true→l.length=n
 | [],0,_=>rfl
 | _::l,n+1,h=>by simp only[iC] at h;simp[nX h]
 | [],_+1,h=>by simp[iC] at h
 | _::_,0,h=>by simp[iC] at h
def iY {α:Type}:List α→Nat→Bool
 | _,0=>true
 | _::l,n+1=>iY l n
 | [],_+1=>false
theorem nY {α:Type}: ∀ {l:List α} {n:Nat},iY l n=true→n≤l.length
 | _,0,_=>ajG _
 | _::l,n+1,h=>by simp only[iY] at h;simpa using nY h
 | [],_+1,h=>by simp[iY] at h
def takeN {α:Type}:List α→Nat→List α
 | _,0=> []
 | x::l,n+1=>x::takeN l n
 | [],_+1=> []
theorem uE {α:Type}: ∀ (l:List α) (n:Nat),takeN l n=l.take n
 | _,0=>by simp[takeN]
 | _::l,n+1=>by simp[takeN,uE l n]
 | [],_+1=>by simp[takeN]
def sJ {α:Type}:List α→Nat→List α
 | l,0=>l
 | _::l,n+1=>sJ l n
 | [],_+1=> []
theorem uF {α:Type}: ∀ (l:List α) (n:Nat),sJ l n=l.drop n
 | _,0=>by simp[sJ]
 | _::l,n+1=>by simp[sJ,uF l n]
 | [],_+1=>by simp[sJ]
def nK (v:V) (sz:Nat):Bool:=match v with
 | .agg cs=>iC cs sz
 | v=>V.aT v &&Nat.beq sz 1
theorem nZ {v:V} {sz:Nat} (h:nK v sz=true):aV v sz=true:=by
 unfold nK at h
 split at h
 ·simp[aV,V.cells,V.dh,V.isAgg,nX h]
 ·rename_i hn
  simp only[Bool.and_eq_true] at h
  have h1:sz=1:=ajs h.2
  have h2:v.cells=[v]:=by cases v<;>simp_all[V.cells]
  simp[aV,V.dh,h2,h1,h.1]
def zS (agg:Bool) (off sz:Nat) (e:V):Option V:=
 match agg with
 | true=>match e with
   | .agg cs=>bif Nat.beq off 0 &&iC cs sz then some e else bif iY cs (off+sz) then some (.agg (takeN (sJ cs off) sz)) else none
   | _=>none
 | false=>match e with
   | .agg cs=>nth cs off
   | v=>bif V.aT v &&Nat.beq off 0 then some v else none
theorem n9 {agg:Bool} {off sz:Nat} {e v:V} (h:zS agg off sz e=some v):AM.part agg off sz e=some v:=by
 cases agg with
 | true=>
   simp only[zS] at h
   cases e with
   | agg cs=>
     simp only at h
     cases hb: (Nat.beq off 0 &&iC cs sz) with
     | true=>
       simp only[hb,cond_true,aiT] at h
       subst h
       simp only[Bool.and_eq_true] at hb
       have h1:off=0:=ajs hb.1
       have h2:=nX hb.2
       simp[AM.part,h1,←h2]
     | false=>
       simp only[hb,cond_false] at h
       cases hc:iY cs (off+sz) with
       | true=>
         simp only[hc,cond_true,aiT] at h
         subst h
         simp[AM.part,uE,uF,nY hc]
       | false=>simp[hc] at h
   | _=>simp at h
 | false=>
   simp only[zS] at h
   cases e with
   | agg cs=>simp only[JG] at h;simpa [AM.part] using h
   | _=>
     simp only[V.aT,aj1,Bool.false_and,cond_false] at h
     first
     | (simp at h;done)
     | (cases hb:Nat.beq off 0 with
        | true=>simp only[hb,cond_true] at h;have h1:=ajs hb;simp[AM.part,h1,V.aT];simpa using h
        | false=>simp[hb] at h)
def ku (agg:Bool) (off sz:Nat) (e v:V):Option V:=
 match agg with
 | true=>match e,v with
   | .agg cs,.agg vs=>bif iC vs sz then(bif Nat.beq off 0 &&iC cs sz then some v else bif iY cs (off+sz) then some (.agg (takeN cs off++(vs++sJ cs (off+sz)))) else none) else none
   | _,_=>none
 | false=>bif V.aT v &&Nat.beq sz 1 then match e with
    | .agg cs=>bif iY cs (off+1) then some (.agg (EH cs off v)) else none
    | e=>bif V.aT e &&Nat.beq off 0 then some v else none
   else none
theorem xX {agg:Bool} {off sz:Nat} {e v x:V} (h:ku agg off sz e v=some x):ln agg off sz e v=some x:=by
 cases agg with
 | true=>
   simp only[ku] at h
   split at h
   · rename_i cs vs
     cases h1:iC vs sz with
     | false=>simp[h1] at h
     | true=>
       have Gz:=nX h1
       simp only[h1,cond_true] at h
       cases hb: (Nat.beq off 0 &&iC cs sz) with
       | true=>
         simp only[hb,cond_true,aiT] at h
         subst h
         simp only[Bool.and_eq_true] at hb
         have h3:off=0:=ajs hb.1
         have h2:=nX hb.2
         subst h3
         simp[ln,Gz,h2]
       | false=>
         simp only[hb,cond_false] at h
         cases hc:iY cs (off+sz) with
         | true=>
           simp only[hc,cond_true,aiT] at h
           subst h
           simp[ln,uE,uF,nY hc,Gz]
         | false=>simp[hc] at h
   ·simp at h
 | false=>
   simp only[ku] at h
   cases hb: (V.aT v &&Nat.beq sz 1) with
   | false=>simp[hb] at h
   | true=>
     simp only[hb,cond_true] at h
     simp only[Bool.and_eq_true] at hb
     have h1:sz=1:=ajs hb.2
     split at h
     · rename_i cs
       cases hc:iY cs (off+1) with
       | false=>simp[hc] at h
       | true=>
         simp only[hc,cond_true,aiT] at h
         subst h
         have:=nY hc
         simp[ln,hb.1,h1,zj];omega
     · rename_i hn
       cases hc: (V.aT e &&Nat.beq off 0) with
       | false=>simp[hc] at h
       | true=>
         simp only[hc,cond_true,aiT] at h
         subst h
         simp only[Bool.and_eq_true] at hc
         have h3:off=0:=ajs hc.2
         cases e<;>simp_all[ln,V.aT]
def mc:Option V→bF
 | some v=> .done v
 | none=> .fail
def pZ (agg:Bool) (off sz:Nat) (e:V):bF:=
 match agg with
 | true=>match e with
   | .agg cs=>bif Nat.beq off 0 &&iC cs sz then .done e else bif iY cs (off+sz) then force (takeN (sJ cs off) sz) fun l=> .done (.agg l) else .fail
   | _=> .fail
 | false=>match e with
   | .agg cs=>mc (nth cs off)
   | v=>bif V.aT v &&Nat.beq off 0 then .done v else .fail
theorem uG {agg:Bool} {off sz:Nat} {e:V}:pZ agg off sz e=mc (zS agg off sz e):=by
 unfold pZ zS
 cases agg with
 | true=>
   cases e with
   | agg cs=>
     simp only
     cases hb: (Nat.beq off 0 &&iC cs sz) with
     | true=>rfl
     | false=>
       simp only[cond_false]
       cases hc:iY cs (off+sz) with
       | true=>simp only[cond_true,force_eq];rfl
       | false=>rfl
   | _=>rfl
 | false=>
   cases e with
   | agg cs=>rfl
   | _=>simp only;cases hb:Nat.beq off 0 <;>simp[V.aT,mc]
def Qk (agg:Bool) (off sz:Nat) (e v:V) (k:V→bF):bF:=
 match agg with
 | true=>match e,v with
   | .agg cs,.agg vs=>bif iC vs sz then(bif Nat.beq off 0 &&iC cs sz then k v else bif iY cs (off+sz) then force (takeN cs off++(vs++sJ cs (off+sz))) fun l=>k (.agg l) else .fail) else .fail
   | _,_=> .fail
 | false=>bif V.aT v &&Nat.beq sz 1 then match e with
    | .agg cs=>bif iY cs (off+1) then force (EH cs off v) fun l=>k (.agg l) else .fail
    | e=>bif V.aT e &&Nat.beq off 0 then k v else .fail
   else .fail
theorem UT {agg:Bool} {off sz:Nat} {e v:V} {k:V→bF}:Qk agg off sz e v k=match ku agg off sz e v with
   | some x=>k x
   | none=> .fail:=by
 unfold Qk ku
 cases agg with
 | true=>
   simp only
   split
   · rename_i cs vs
     cases iC vs sz with
     | false=>rfl
     | true=>
       simp only[cond_true]
       cases (Nat.beq off 0 &&iC cs sz) with
       | true=>rfl
       | false=>
         simp only[cond_false]
         cases iY cs (off+sz) with
         | true=>simp only[cond_true,force_eq]
         | false=>rfl
   ·rfl
 | false=>
   simp only
   cases (V.aT v &&Nat.beq sz 1) with
   | false=>rfl
   | true=>
     simp only[cond_true]
     split
     · rename_i cs
       cases iY cs (off+1) with
       | true=>simp only[cond_true,force_eq]
       | false=>rfl
     ·cases (V.aT e &&Nat.beq off 0) <;>rfl
def gZ (x:aU) (k:V→bF):bF:=match x with
 | .tmp t=> .nW t k
 | .const v=>k v
theorem Ref.ev {x:aU} {k:V→bF} {k0:V→Act} (h: ∀v,Ref (k v) (k0 v)):Ref (gZ x k) (AM.ev x k0):=by
 cases x with
 | tmp t=>exact⟨k0,rfl,h⟩
 | const v=>exact h v
def GA:List aU→(List V→bF)→bF
 | [],k=>k []
 | x::xs,k=>gZ x fun v=>GA xs fun vs=>k (v::vs)
theorem Ref.evs: ∀ {xs:List aU} {k:List V→bF} {k0:List V→Act},(∀v,Ref (k v) (k0 v))→Ref (GA xs k) (AM.evs xs k0)
 | [],_,_,h=>h []
 | x::xs,_,_,h=>Ref.ev fun v=>Ref.evs fun vs=>h (v::vs)
def UU:Option aU→(Option V→bF)→bF
 | none,k=>k none
 | some x,k=>gZ x fun v=>k (some v)
theorem Ref.PJ {x:Option aU} {k:Option V→bF} {k0:Option V→Act} (h: ∀v,Ref (k v) (k0 v)):Ref (UU x k) (AM.PJ x k0):=by
 cases x with
 | none=>exact h none
 | some x=>exact Ref.ev fun v=>h (some v)
theorem Ref.eP {o o0:Option V} (h: ∀v,o=some v→o0=some v):Ref (mc o) (AM.eP o0):=by
 cases o with
 | none=>trivial
 | some v=>rw[h v rfl];exact rfl
theorem Ref.ie {o:Option V}:Ref (mc o) (AM.eP o):=Ref.eP fun _ h=>h
theorem Ref.fail {a:Act}:Ref .fail a:=trivial
theorem Ref.done {v:V}:Ref (.done v) (.done v):=rfl
def zT (c:V) (k:V→bF):bF:=
 match c with
 | .sl r g off len=> .bR r fun ⟨cj,gh,di,ji,iD⟩=>match iD with
   | some es=> .ex (List V) (fun ys=>aG es off len=ys) fun ys=> .bW (cj=g∧di=true∧off+len≤es.length∧V.al ys=true) (.bO r ⟨cj,gh,di,true,iD⟩ (k (.lit gh ys)))
   | none=> .fail
 | .mp r g=> .bR r fun ⟨cj,gh,di,ji,iD⟩=>match iD with
   | some es=> .ex (List V) (fun ys=>es=ys) fun ys=> .bW (cj=g∧gh=0∧V.al ys=true∧ys.all V.isTuple=true) (.bO r ⟨cj,gh,di,true,iD⟩ (k (.mlit ys)))
   | none=> .fail
 | .own .. | .msl .. | .mptr .. | .any| .it .. => .fail
 | c=>k c
theorem Ref.jk {c:V} {k:V→bF} {k0:V→Act} (h: ∀v,Ref (k v) (k0 v)):Ref (zT c k) (AM.jk c k0):=by
 cases c
 case sl r g off len=>
  refine⟨_,rfl,fun ⟨gen,sz,arr,fz,es⟩=> ?_⟩
  cases es with
  | none=>trivial
  | some es=>
    rintro ys rfl hc
    simp only[hc,and_self,if_true]
    refine⟨_,by simp[hc],h _⟩
 case mp r g=>
  refine⟨_,rfl,fun ⟨gen,sz,arr,fz,es⟩=> ?_⟩
  cases es with
  | none=>trivial
  | some es=>
    rintro ys rfl hc
    simp only[hc,and_self,if_true]
    refine⟨_,by simp[hc],h _⟩
 all_goals first| exact h _| trivial
def EI (b:Bool) (c:V) (k:V→bF):bF:=
 match b,c with
 | true,.ptr r g 0 off=> .bR r fun ⟨cj,gh,di,ji,iD⟩=>match iD with
   | some [e]=> .bW (cj=g∧0 <gh∧V.aw e=true) (.bO r ⟨cj,gh,di,true,iD⟩ (k (.eptr e off)))
   | _=> .fail
 | _,c=>k c
theorem Ref.tC {b:Bool} {c:V} {k:V→bF} {k0:V→Act} (h: ∀v,Ref (k v) (k0 v)):Ref (EI b c k) (AM.tC b c k0):=by
 unfold EI AM.tC
 split
 ·refine⟨_,rfl,fun ⟨gen,sz,arr,fz,es⟩=> ?_⟩
  dsimp only
  split
  ·intro hc
   simp only[hc,and_self,if_true]
   refine⟨_,by simp[hc],h _⟩
  ·trivial
 ·split
  ·rename_i hx
   exact absurd rfl (hx _ _ _ rfl)
  ·exact h _
def zU:List (Bool×aU)→(List V→bF)→bF
 | [],k=>k []
 | (b,x)::xs,k=>gZ x fun c=>EI b c fun c'=>zU xs fun cs=>k (c'::cs)
theorem Ref.lq: ∀ {xs:List (Bool×aU)} {k:List V→bF} {k0:List V→Act},(∀v,Ref (k v) (k0 v))→Ref (zU xs k) (AM.lq xs k0)
 | [],_,_,h=>h []
 | (_,_)::_,_,_,h=>Ref.ev fun _=>Ref.tC fun v=>Ref.lq fun vs=>h (v::vs)
def wN:List V→(List V→bF)→bF
 | [],k=>k []
 | c::cs,k=>zT c fun c'=>wN cs fun cU=>k (c'::cU)
theorem Ref.mf: ∀ {cs:List V} {k:List V→bF} {k0:List V→Act},(∀v,Ref (k v) (k0 v))→Ref (wN cs k) (AM.mf cs k0)
 | [],_,_,h=>h []
 | _::_,_,_,h=>Ref.jk fun v=>Ref.mf fun vs=>h (v::vs)
def Cu (v:V) (k:V→bF):bF:=
 bif V.aw v then k v else
 match v with
 | .agg cs=>wN cs fun cU=>k (.agg cU)
 | v=>zT v k
theorem Ref.C6 {v:V} {k:V→bF} {k0:V→Act} (h: ∀v,Ref (k v) (k0 v)):Ref (Cu v k) (AM.C6 v k0):=by
 unfold Cu AM.C6
 cases hp:V.aw v with
 | true=>simpa using h v
 | false=>
   simp only[cond_false,ai3,if_false]
   cases v
   case agg cs=>exact Ref.mf fun cU=>h _
   all_goals exact Ref.jk h
def LX (vs:List V) (k:List V→bF):bF:=
 .alt (.bW (V.al vs=true) (k vs)) (match vs with
  | [v]=>Cu v fun v'=>k [v']
  | _=> .fail)
theorem Ref.nJ {vs:List V} {k:List V→bF} {k0:List V→Act} (h: ∀v,Ref (k v) (k0 v)):Ref (LX vs k) (AM.nJ vs k0):=by
 unfold LX
 refine⟨?_,?_⟩
 ·intro hp
  simp only[AM.nJ,hp,if_true]
  exact h _
 ·split
  ·rename_i v
   unfold AM.nJ
   by_cases hp:V.al [v]=true
   ·rw[if_pos hp]
    have h1:V.aw v=true:=by simpa [V.al] using hp
    unfold Cu
    simp only[h1,cond_true];exact h _
   ·rw[if_neg hp]
    simp only[AM.nJ.go]
    exact Ref.C6 fun v'=>h _
  ·trivial
end Go.AM
namespace Go.AM
def EJ (f:V→(V→List Nat→bF)→bF):List V→(List V→List Nat→bF)→bF
 | [],k=>k [] []
 | c::cs,k=>f c fun c' r=>EJ f cs fun cU rs=>k (c'::cU) (r++rs)
theorem Ref.kU {f:V→(V→List Nat→bF)→bF} {f0:V→(V→List Nat→Act)→Act} (hf: ∀c k k0,(∀v rs,Ref (k v rs) (k0 v rs))→Ref (f c k) (f0 c k0)):
  ∀ {cs:List V} {k:List V→List Nat→bF} {k0:List V→List Nat→Act},(∀v rs,Ref (k v rs) (k0 v rs))→Ref (EJ f cs k) (AM.kU f0 cs k0)
 | [],_,_,h=>h _ _
 | _::_,_,_,h=>hf _ _ _ fun v rs=>Ref.kU hf fun vs rs'=>h _ _
def fZ:Nat→V→(V→List Nat→bF)→bF
 | 0,v,k=> .bW (V.aw v=true) (k v [])
 | d+1,v,k=>bif V.aw v then k v [] else
   match v with
   | .agg cs=>EJ (fZ d) cs fun cU rs=>k (.agg cU) rs
   | .fn f cs=>EJ (fZ d) cs fun cU rs=>k (.fn f cU) rs
   | .iface t x=>fZ d x fun x' rs=>k (.iface t x') rs
   | .sl r g off len=> .bR r fun ⟨cj,gh,di,ji,iD⟩=>match iD with
     | some es=> .ex (List V) (fun ys=>aG es off len=ys) fun ys=> .bW (cj=g∧di=true∧off+len≤es.length∧V.al ys=true) (k (.lit gh ys) [r])
     | none=> .fail
   | .ptr r g idx off=> .bR r fun ⟨cj,gh,di,ji,iD⟩=>match iD with
     | some es=> .bW (cj=g) (match es with
       | [e]=> (match idx with| 0=>fZ d e fun e' rs=>k (.eptr e' off) (r::rs) | _+1=> .fail)
       | es=> .ex V (fun e=>es[idx]? =some e) fun e=>fZ d e fun e' rs=>k (.eptr e' off) (r::rs))
     | none=> .fail
   | _=> .fail
theorem Ref.eh: ∀ {d:Nat} {v:V} {k:V→List Nat→bF} {k0:V→List Nat→Act},(∀v rs,Ref (k v rs) (k0 v rs))→Ref (fZ d v k) (AM.eh d v k0)
 | 0,v,k,k0,h=>by
   intro hp
   simp only[AM.eh,hp,if_true]
   exact h _ _
 | d+1,v,k,k0,h=>by
   unfold fZ AM.eh
   cases hp:V.aw v with
   | true=>simpa using h v []
   | false=>
     simp only[cond_false,ai3,if_false]
     cases v
     case agg cs=>exact Ref.kU (f:=fZ d) (f0:=AM.eh d) (fun c k k0 h=>Ref.eh h) fun cU rs=>h _ _
     case fn f cs=>exact Ref.kU (f:=fZ d) (f0:=AM.eh d) (fun c k k0 h=>Ref.eh h) fun cU rs=>h _ _
     case iface t x=>exact Ref.eh fun x' rs=>h _ _
     case sl r g off len=>
      refine⟨_,rfl,fun ⟨gen,sz,arr,fz,es⟩=> ?_⟩
      cases es with
      | none=>trivial
      | some es=>
        rintro ys rfl hc
        try simp only at hc
        simp only[hc,and_self,if_true,rL]
        exact h _ _
     case ptr r g idx off=>
      refine⟨_,rfl,fun ⟨gen,sz,arr,fz,es⟩=> ?_⟩
      cases es with
      | none=>trivial
      | some es=>
        intro hc
        try simp only at hc
        simp only[hc,if_true]
        split
        ·  rename_i e
           cases idx with
           | zero=>exact Ref.eh fun e' rs=>h _ _
           | succ n=>trivial
        ·  intro e he
           simp only[he]
           exact Ref.eh fun e' rs=>h _ _
     all_goals trivial
def dL (   r0:Nat):List V→List (Option Nat)→Nat→(List V→List Nat→List ed→bF)→bF
 | [],_,_,k=>k [] [] []
 | v::vs,m::ms,i,k=>
   match m with
   | some sz=>match v with
     | .nils=> .bW (0 <sz) (dL r0 vs ms (i+1) fun asq rs ws=>k (.msl sz [] 0 0::asq) rs (⟨i,r0+i,some sz⟩::ws))
     | .sl r g off len=> .bR r fun ⟨cj,gh,di,ji,iD⟩=>match iD with
       | some es=> .bW (cj=g∧ji=false∧gh=sz∧off+len≤es.length∧V.al es=true)
          (dL r0 vs ms (i+1) fun asq rs ws=>k (.msl sz es off len::asq) rs (⟨i,r,none⟩::ws))
       | none=> .fail
     | .ptr r g idx off=> .bR r fun ⟨cj,gh,di,ji,iD⟩=>match iD with
       | some es=> .bW (cj=g∧ji=false∧gh=sz∧V.al es=true)
          (dL r0 vs ms (i+1) fun asq rs ws=>k (.mptr sz es idx off::asq) rs (⟨i,r,none⟩::ws))
       | none=> .fail
     | _=> .fail
   | none=>fZ 5 v fun v' rs=>dL r0 vs ms (i+1) fun asq rs' ws=>k (v'::asq) (rs++rs') ws
 | v::vs,[],i,k=>fZ 5 v fun v' rs=>dL r0 vs [] (i+1) fun asq rs' ws=>k (v'::asq) (rs++rs') ws
theorem Ref.dB {r0:Nat}: ∀ {vs:List V} {ms:List (Option Nat)} {i:Nat} {k:List V→List Nat→List ed→bF} {k0:List V→List Nat→List ed→Act},
   (∀a b c,Ref (k a b c) (k0 a b c))→Ref (dL r0 vs ms i k) (AM.dB r0 vs ms i k0)
 | [],_,_,_,_,h=>h _ _ _
 | v::vs,[],i,k,k0,h=>Ref.eh fun v' rs=>Ref.dB fun a b c=>h _ _ _
 | v::vs,none::ms,i,k,k0,h=>Ref.eh fun v' rs=>Ref.dB fun a b c=>h _ _ _
 | v::vs,some sz::ms,i,k,k0,h=>by
   unfold dL AM.dB
   cases v
   case nils=>
    intro hc
    simp only[hc,if_true]
    exact Ref.dB fun a b c=>h _ _ _
   case sl r g off len=>
    refine⟨_,rfl,fun ⟨gen,sz,arr,fz,es⟩=> ?_⟩
    cases es with
    | none=>trivial
    | some es=>
      intro hc
      try simp only at hc
      simp only[hc,and_self,if_true]
      exact Ref.dB fun a b c=>h _ _ _
   case ptr r g idx off=>
    refine⟨_,rfl,fun ⟨gen,sz,arr,fz,es⟩=> ?_⟩
    cases es with
    | none=>trivial
    | some es=>
      intro hc
      try simp only at hc
      simp only[hc,and_self,if_true]
      exact Ref.dB fun a b c=>h _ _ _
   all_goals trivial
def oT:List Nat→bF→bF
 | [],k=>k
 | r::rs,k=> .bR r fun ⟨cj,gh,di,ji,iD⟩=> .bO r ⟨cj,gh,di,true,iD⟩ (oT rs k)
theorem Ref.dC: ∀ {rs:List Nat} {k:bF} {k0:Act},Ref k k0→Ref (oT rs k) (AM.dC rs k0)
 | [],_,_,h=>h
 | _::_,_,_,h=> ⟨_,rfl,fun ⟨_,_,_,_,_⟩=> ⟨_,rfl,Ref.dC h⟩⟩
def jl:List ed→List (Nat×List V)→(List (Nat×Nat×Nat)→bF)→bF
 | [],[],k=>k []
 | ⟨i,r,fresh⟩::ws,(bump,es)::outs,k=> .bR r fun ⟨cj,gh,di,ji,iD⟩=>match fresh with
   | none=> .bO r ⟨cj+bump,gh,di,ji,some es⟩ (jl ws outs fun gs=>k ((i,r,cj+bump)::gs))
   | some sz=> .bO r {gen:=cj+1,sz,arr:=true,fz:=false,es:=some es} (jl ws outs fun gs=>k ((i,r,cj+1)::gs))
 | _,_,_=> .fail
theorem Ref.eF: ∀ {ws:List ed} {outs:List (Nat×List V)} {k:List (Nat×Nat×Nat)→bF} {k0:List (Nat×Nat×Nat)→Act},(∀g,Ref (k g) (k0 g))→Ref (jl ws outs k) (AM.eF ws outs k0)
 | [],[],_,_,h=>h _
 | [],_::_,_,_,_=>trivial
 | _::_,[],_,_,_=>trivial
 | ⟨i,r,fresh⟩::ws,(bump,es)::outs,k,k0,h=>by
   refine⟨_,rfl,fun ⟨gen,sz,arr,fz,es'⟩=> ?_⟩
   cases fresh with
   | none=>exact⟨_,rfl,Ref.eF fun g=>h _⟩
   | some sz=>exact⟨_,rfl,Ref.eF fun g=>h _⟩
theorem Ref.bif {b:Bool} {x:bF} {a:Act} (h:Ref x a):Ref (bif b then x else .fail) (if b=true then a else .fail):=by
 cases b with
 | true=>simpa using h
 | false=>trivial
def mU (bB:Bool) (r:Nat) (gs:List (Nat×Nat×Nat)) (c:V) (k:V→bF):bF:=
 match c with
 | .own sz xs=> (match bB with
   | true=> .uD r fun g=> .bO r {gen:=g,sz,arr:=true,fz:=false,es:=some xs} (k (.sl r g 0 xs.length))
   | false=>k (.lit sz xs))
 | .sl i _ off len=>match oU i gs with
   | some (r',g')=>k (.sl r' g' off len)
   | none=> .fail
 | c=>bif V.aw c then k c else .fail
theorem Ref.dJ {bB:Bool} {r:Nat} {gs:List (Nat×Nat×Nat)} {c:V} {k:V→bF} {k0:V→Act} (h: ∀v,Ref (k v) (k0 v)):Ref (mU bB r gs c k) (AM.dJ bB r gs c k0):=by
 unfold mU AM.dJ
 cases c
 case own sz xs=>
  cases bB with
  | true=>exact⟨_,rfl,fun o=> ⟨_,rfl,h _⟩⟩
  | false=>exact h _
 case sl i g off len=>
  simp only
  cases oU i gs with
  | none=>trivial
  | some p=>exact h _
 all_goals exact Ref.bif (h _)
def oV (bB:Bool):Nat→List (Nat×Nat×Nat)→List V→(List V→bF)→bF
 | _,_,[],k=>k []
 | r,gs,c::cs,k=>mU bB r gs c fun c'=>oV bB (r+1) gs cs fun cU=>k (c'::cU)
theorem Ref.fo {bB:Bool}: ∀ {cs:List V} {r:Nat} {gs:List (Nat×Nat×Nat)} {k:List V→bF} {k0:List V→Act},(∀v,Ref (k v) (k0 v))→Ref (oV bB r gs cs k) (AM.fo bB r gs cs k0)
 | [],_,_,_,_,h=>h _
 | _::_,_,_,_,_,h=>Ref.dJ fun c'=>Ref.fo fun cU=>h _
def uH (bB:Bool) (r:Nat) (gs:List (Nat×Nat×Nat)) (v:V) (k:V→bF):bF:=
 bif V.aw v then k v else
 match v with
 | .agg cs=>oV bB r gs cs fun cU=>k (.agg cU)
 | v=>mU bB r gs v k
theorem Ref.kc {bB:Bool} {r:Nat} {gs:List (Nat×Nat×Nat)} {v:V} {k:V→bF} {k0:V→Act} (h: ∀v,Ref (k v) (k0 v)):Ref (uH bB r gs v k) (AM.kc bB r gs v k0):=by
 unfold uH AM.kc
 cases hp:V.aw v with
 | true=>simpa using h v
 | false=>
   simp only[cond_false,ai3,if_false]
   cases v
   case agg cs=>exact Ref.fo fun cU=>h _
   all_goals exact Ref.dJ h
def wO (bB:Bool):Nat→List (Nat×Nat×Nat)→List V→(List V→bF)→bF
 | _,_,[],k=>k []
 | r,gs,v::vs,k=>uH bB r gs v fun v'=>wO bB (r+8) gs vs fun vs'=>k (v'::vs')
theorem Ref.kx {bB:Bool}: ∀ {vs:List V} {r:Nat} {gs:List (Nat×Nat×Nat)} {k:List V→bF} {k0:List V→Act},(∀v,Ref (k v) (k0 v))→Ref (wO bB r gs vs k) (AM.kx bB r gs vs k0)
 | [],_,_,_,_,h=>h _
 | _::_,_,_,_,_,h=>Ref.kc fun c'=>Ref.kx fun cU=>h _
def fA (bB:Bool) (r:Nat) (gs:List (Nat×Nat×Nat)) (v:V) (k:V→bF):bF:=
 bif V.aw v then k v else
 match v with
 | .tuple vs=>wO bB r gs vs fun vs'=>k (.tuple vs')
 | v=>uH bB r gs v k
theorem Ref.dE {bB:Bool} {r:Nat} {gs:List (Nat×Nat×Nat)} {v:V} {k:V→bF} {k0:V→Act} (h: ∀v,Ref (k v) (k0 v)):Ref (fA bB r gs v k) (AM.dE bB r gs v k0):=by
 unfold fA AM.dE
 cases hp:V.aw v with
 | true=>simpa using h v
 | false=>
   simp only[cond_false,ai3,if_false]
   cases v
   case tuple cs=>exact Ref.kx fun cU=>h _
   all_goals exact Ref.kc h
def bz (E:Env) (f:Nat):List (Option Nat):=match E.fn f with
 | some af=>af.cu
 | none=> []
def lr (E:Env) (r:Nat) (bB:Bool) (f:Nat) (args:List V):bF:=
 dL ( r+8) args (bz E f) 0 fun asq rs ws=>
  .bW ((apart rs (ws.map (·.r)) &&distinct (ws.map (·.r)))=true) <| .call f asq fun ⟨val,outs⟩=>
   match rs with
   | []=>jl ws outs fun gs=>fA bB r gs val .done
   | rs=>bif (V.isScalar val || tD r bB val) &&outs.all (fun o=>V.bn o.2) then jl ws outs fun gs=>fA bB r gs val .done
     else oT rs (jl ws outs fun gs=>fA bB r gs val .done)
theorem Ref.jm {E:Env} {r:Nat} {bB:Bool} {f:Nat} {args:List V}:Ref (lr E r bB f args) (AM.jm E r bB f args):=by
 unfold lr AM.jm
 refine Ref.dB fun asq rs ws=> ?_
 intro hc
 simp only[hc,if_true]
 refine⟨_,rfl,fun ⟨val,outs⟩=> ?_⟩
 have Nd:Ref (jl ws outs fun gs=>fA bB r gs val .done) (AM.eF ws outs fun gs=>AM.dE bB r gs val .done):=
   Ref.eF fun gs=>Ref.dE fun v=>rfl
 cases rs with
 | nil=>
   simp only[dC]
   split<;>exact Nd
 | cons a rs=>
   simp only
   cases hb: ((V.isScalar val || tD r bB val) &&outs.all fun o=>V.bn o.2) with
   | true=>simp only[cond_true,if_true];exact Nd
   | false=>simp only[cond_false,ai3,if_false];exact Ref.dC Nd
end Go.AM
namespace Go.AM
def zV (d:Nat) (o:Option V) (k:Nat→bF):bF:=match o with
 | none=>k d
 | some (.int _ n)=> .bW (0≤n) (k n.toNat)
 | some _=> .fail
theorem Ref.UW {d:Nat} {o:Option V} {k:Nat→bF} {a:Act} (h: ∀n,cQ d o=some n→Ref (k n) a):Ref (zV d o k) a:=by
 unfold zV
 split
 ·exact h _ rfl
 ·rename_i K n
  intro h0
  exact h _ (by simp[cQ,h0])
 ·trivial
def zW:List (Nat×Nat×aU)→(List (Nat×Nat×V)→bF)→bF
 | [],k=>k []
 | (off,sz,x)::ps,k=>gZ x fun v=>zW ps fun vs=>k ((off,sz,v)::vs)
theorem Ref.mV: ∀ {ps:List (Nat×Nat×aU)} {k:List (Nat×Nat×V)→bF} {k0:List (Nat×Nat×V)→Act},(∀v,Ref (k v) (k0 v))→Ref (zW ps k) (AM.mV ps k0)
 | [],_,_,h=>h _
 | (_,_,_)::_,_,_,h=>Ref.ev fun v=>Ref.mV fun vs=>h _
def mg:List V→List (Nat×Nat×V)→Option (List V)
 | cs,[]=>some cs
 | cs,(off,sz,v)::rest=>bif nK v sz &&iY cs (off+sz) then mg (match v with
    | .agg vs=>takeN cs off++(vs++sJ cs (off+sz))
    | v=>EH cs off v) rest else none
theorem sK: ∀ {ps:List (Nat×Nat×V)} {cs out:List V},mg cs ps=some out→jP cs ps=some out
 | [],cs,out,h=>h
 | (off,sz,v)::rest,cs,out,h=>by
   simp only[mg] at h
   cases hb: (nK v sz &&iY cs (off+sz)) with
   | false=>simp[hb] at h
   | true=>
     simp only[hb,cond_true] at h
     simp only[Bool.and_eq_true] at hb
     have h1:=nZ hb.1
     have h2:=nY hb.2
     simp only[aV,Bool.and_eq_true,beq_iff_eq] at h1
     simp only[jP]
     rw[if_pos ⟨h1.1,h2,h1.2⟩]
     have ih:=sK h
     rw[←ih]
     congr 1
     split
     ·rename_i vs
      simp[V.cells,uE,uF]
     ·rename_i hn
      have h3:v.cells=[v]:=by cases v<;>simp_all[V.cells]
      have h4:sz=1:=by rw[h3] at h1;simpa using h1.1.symm
      subst h4
      rw[zj,h3]
      simp[List.set_eq_take_append_cons_drop,show off<cs.length by omega]
def zX:List (Nat×aU)→(List (Nat×V)→bF)→bF
 | [],k=>k []
 | (i,x)::ps,k=>gZ x fun v=>Cu v fun v=>zX ps fun vs=>k ((i,v)::vs)
theorem Ref.ke: ∀ {ps:List (Nat×aU)} {k:List (Nat×V)→bF} {k0:List (Nat×V)→Act},(∀v,Ref (k v) (k0 v))→Ref (zX ps k) (AM.ke ps k0)
 | [],_,_,h=>h _
 | (_,_)::_,_,_,h=>Ref.ev fun v=>Ref.C6 fun v'=>Ref.ke fun vs=>h _
def uI (sz:Nat):Nat→List (Nat×V)→Option (List V)
 | _,[]=>some []
 | i,(j,v)::rest=>bif Nat.beq i j &&nK v sz then(match uI sz (i+1) rest with| some vs=>some (v::vs) | none=>none) else none
def mh (sz:Nat):List V→List (Nat×V)→Option (List V)
 | es,[]=>some es
 | es,(i,v)::rest=>bif iY es (i+1) &&nK v sz then mh sz (EH es i v) rest else none
theorem sL {sz:Nat}: ∀ {ps:List (Nat×V)} {es out:List V},mh sz es ps=some out→ee sz es ps=some out
 | [],cs,out,h=>h
 | (i,v)::rest,es,out,h=>by
   simp only[mh] at h
   cases hb: (iY es (i+1) &&nK v sz) with
   | false=>simp[hb] at h
   | true=>
     simp only[hb,cond_true] at h
     simp only[Bool.and_eq_true] at hb
     have h1:=nZ hb.2
     have h2:=nY hb.1
     simp only[ee]
     rw[if_pos ⟨abV,h1⟩,←zj]
     exact sL h
theorem zY {sz:Nat}: ∀ {ps:List (Nat×V)} {i:Nat} {vs pre es:List V},uI sz i ps=some vs→pre.length=i→es.length=ps.length→ee sz (pre++es) ps=some (pre++vs)
 | [],i,vs,pre,es,h,hp,he=>by
   simp only[uI,aiT] at h
   subst h
   have:es=[]:=by simpa using he
   simp[ee,this]
 | (j,v)::rest,i,vs,pre,es,h,hp,he=>by
   simp only[uI] at h
   cases hb: (Nat.beq i j &&nK v sz) with
   | false=>simp[hb] at h
   | true=>
     simp only[hb,cond_true] at h
     simp only[Bool.and_eq_true] at hb
     have h1:=nZ hb.2
     have h2:i=j:=ajs hb.1
     subst h2
     split at h
     ·rename_i vs' hv
      simp only[aiT] at h
      subst h
      cases es with
      | nil=>simp at he
      | cons e es=>
        simp only[ee]
        rw[if_pos ⟨by simp;omega,h1⟩]
        have: (pre++e::es).set i v=(pre++[v])++es:=by
         simp[List.set_append,hp]
        rw[this,zY hv (by simp[hp]) (by simpa using he)]
        simp
     ·simp at h
def uJ (sz:Nat) (x:V) (k:List V→bF):bF:=
 match x with
 | .nils=>k []
 | .lit sz' xs=>bif Nat.beq sz' sz then k xs else .fail
 | .sl r g off len=> .bR r fun ⟨cj,gh,di,ji,iD⟩=>match iD with
   | some es=> .ex (List V) (fun ys=>aG es off len=ys) fun ys=> .bW (cj=g∧gh=sz∧off+len≤es.length) (k ys)
   | none=> .fail
 | .str s=>bif Nat.beq sz 1 then k (s.map fun b=> .int .u8 b.toNat) else .fail
 | _=> .fail
theorem Ref.content {sz:Nat} {x:V} {k:List V→bF} {k0:List V→Act} (h: ∀v,Ref (k v) (k0 v)):Ref (uJ sz x k) (AM.content sz x k0):=by
 unfold uJ AM.content
 cases x
 case nils=>exact h _
 case lit sz' xs=>
  cases hb:Nat.beq sz' sz with
  | true=>obtain rfl:=ajs hb;simp only[if_true,hb,cond_true];exact h _
  | false=>simp only[hb,cond_false];trivial
 case str s=>
  cases hb:Nat.beq sz 1 with
  | true=>obtain rfl:=ajs hb;simp only[if_true,hb,cond_true];exact h _
  | false=>simp only[hb,cond_false];trivial
 case sl r g off len=>
  refine⟨_,rfl,fun ⟨gen,sz,arr,fz,es⟩=> ?_⟩
  cases es with
  | none=>trivial
  | some es=>
    rintro ys rfl hc
    try simp only at hc
    simp only[hc,and_self,if_true]
    exact h _
 all_goals trivial
def EK ( r sz lim:Nat) (s:V) (ys:List V):bF:=
 .bW (ys.all (aV · sz)=true) <| bif Nat.ble 1 sz then
 match s with
 | .nils=>match ys with
   | [y]=> .bW (1≤lim) (.uD r fun g=> .bO r {gen:=g,sz,arr:=true,fz:=false,es:=some [y]} (.done (.sl r g 0 1)))
   | ys=> .ite ys.isEmpty (.done .nils) (.bW (ys.length≤lim) (.uD r fun g=> .bO r {gen:=g,sz,arr:=true,fz:=false,es:=some ys} (.done (.sl r g 0 ys.length))))
 | .lit sz' xs=> .bW (ys=[]) (.done (.lit sz' xs))
 | .sl r' g off len=> .bR r' fun ⟨cj,gh,di,ji,iD⟩=>match iD with
   | some es=> .bW (cj=g∧di=true∧ji=false∧gh=sz) <| .alt
      (.bW (off=0∧es.length=len∧len+ys.length≤lim) (.all fun g'=> .bO r' {gen:=g',sz,arr:=true,fz:=false,es:=some (es++ys)} (.done (.sl r' g' 0 (len+ys.length)))))
      (.bW (off+len≤es.length∧len+ys.length≤lim) (.ite (decide (off+len+ys.length≤es.length))
        (.bO r' ⟨cj,gh,di,ji,some (overwrite es (off+len) ys)⟩ (.done (.sl r' g off (len+ys.length))))
        (.bO r' ⟨g+1,gh,di,ji,some (aG es off len++ys)⟩ (.done (.sl r' (g+1) 0 (len+ys.length))))))
   | none=> .fail
 | _=> .fail
 else .fail
theorem Ref.append {r sz lim:Nat} {s:V} {ys:List V}:Ref (EK r sz lim s ys) (Jz r sz lim s ys):=by
 intro hy
 cases hb:Nat.ble 1 sz with
 | false=>simp only[cond_false];trivial
 | true=>
   have hs:0 <sz:=ako hb
   have hg: (ys.all (aV · sz) &&decide (0 <sz))=true:=by simp only[Bool.and_eq_true,decide_eq_true_eq];exact⟨hy,hs⟩
   simp only[cond_true,Jz,hg,if_true]
   cases s
   case nils=>
    simp only
    split
    · rename_i y
      intro hl
      simp only[List.isEmpty_cons,ai3,if_false,ai5,ajc,ajF,hl,if_true]
      exact⟨_,rfl,fun o=> ⟨_,rfl,rfl⟩⟩
    · refine⟨fun he=> ?_,fun he=> ?_⟩
      ·simp only[he,if_true];exact rfl
      ·  intro hl
         simp only[he,ai3,if_false,hl,if_true]
         exact⟨_,rfl,fun o=> ⟨_,rfl,rfl⟩⟩
   case lit sz' xs=>
    intro he
    simp only[he,List.isEmpty_nil,if_true];exact rfl
   case sl r' g off len=>
    refine⟨_,rfl,fun ⟨gen,sz',arr,fz,es⟩=> ?_⟩
    cases es with
    | none=>trivial
    | some es=>
      intro hc
      obtain⟨rfl,rfl,rfl,rfl⟩:=hc
      refine⟨?_,?_⟩
      ·  rintro⟨rfl,rfl,hl⟩
         simp only[ajF,aiZ,hl,and_self,if_true]
         by_cases hn:ys=[]
         ·subst hn
          refine⟨gen,?_⟩
          simp only[ajq,ajc,akl,aiZ,if_true,overwrite,ajP,List.drop_length]
          exact⟨_,rfl,rfl⟩
         ·have hp:0 <ys.length:=List.length_pos_iff.2 hn
          refine⟨gen+1,?_⟩
          rw[if_neg abV]
          simp only[aG,List.drop_zero,ajP]
          exact⟨_,rfl,rfl⟩
      ·  rintro⟨h1,h2⟩
         simp only[h1,h2,and_self,if_true]
         refine⟨fun hd=> ?_,fun hd=> ?_⟩
         ·simp only[decide_eq_true_eq] at hd
          rw[if_pos hd]
          exact⟨_,rfl,rfl⟩
         ·simp only[decide_eq_false_iff_not] at hd
          rw[if_neg hd]
          exact⟨_,rfl,rfl⟩
   all_goals trivial
def Yd (op:BinOp) (x y:V):bF:=
 match x,y with
 | .int k a,.int k' b=>
   match op with
   | .shl=> .bW (0≤b) (.done (.int k (k.wrap (a*2 ^ (min b.toNat k.bits)))))
   | .shr=> .bW (0≤b) (.done (.int k (a.fdiv (2 ^ (min b.toNat k.bits)))))
   | .quo=> .bW (k=k'∧b≠0) (.done (.int k (k.wrap (a.tdiv b))))
   | .rem=> .bW (k=k'∧b≠0) (.done (.int k (a.tmod b)))
   | .and=> .bW (k=k') (mc (mW .and k a b))
   | .or=> .bW (k=k') (mc (mW .or k a b))
   | .xor=> .bW (k=k') (mc (mW .xor k a b))
   | .andNot=> .bW (k=k') (mc (mW .andNot k a b))
   | .add=>bif decide (k=k') then .done (.int k (k.wrap (a+b))) else .fail
   | .sub=>bif decide (k=k') then .done (.int k (k.wrap (a - b))) else .fail
   | .mul=>bif decide (k=k') then .done (.int k (k.wrap (a*b))) else .fail
   | .eql=>bif decide (k=k') then .done (.bool (decide (a=b))) else .fail
   | .neq=>bif decide (k=k') then .done (.bool (!decide (a=b))) else .fail
   | .lss=>bif decide (k=k') then .done (.bool (decide (a<b))) else .fail
   | .leq=>bif decide (k=k') then .done (.bool (decide (a≤b))) else .fail
   | .gtr=>bif decide (k=k') then .done (.bool (decide (b<a))) else .fail
   | .geq=>bif decide (k=k') then .done (.bool (decide (b≤a))) else .fail
 | .str a,.str b=>
   match op with
   | .add=> .bW (a.length+b.length≤9223372036854775807) (.done (.str (a++b)))
   | .eql=> .done (.bool (decide (a=b)))
   | .neq=> .done (.bool (!decide (a=b)))
   | .lss=> .done (.bool (Op.bytesLess a b))
   | .leq=> .done (.bool (Op.bytesLess a b || decide (a=b)))
   | .gtr=> .done (.bool (!(Op.bytesLess a b || decide (a=b))))
   | .geq=> .done (.bool (!Op.bytesLess a b))
   | _=> .fail
 | _,_=> .fail
theorem Ref.UX {b:Bool} {x:bF} {a:Act} (h:b=true→Ref x a):Ref (bif b then x else .fail) a:=by
 cases b with
 | true=>simpa using h rfl
 | false=>trivial
theorem Ref.bin {op:BinOp} {x y:V}:Ref (Yd op x y) (AM.eP (tE op x y)):=by
 unfold Yd
 split
 ·rename_i k a k' b
  split
  case h_1=>intro h;simp[tE,show ¬b< 0 by omega,AM.eP,Ref]
  case h_2=>intro h;simp[tE,show ¬b< 0 by omega,AM.eP,Ref]
  case h_3=>intro h;simp[tE,h.1,h.2,AM.eP,Ref]
  case h_4=>intro h;simp[tE,h.1,h.2,AM.eP,Ref]
  case h_5=>intro h;simp only[tE,h,if_true];exact Ref.ie
  case h_6=>intro h;simp only[tE,h,if_true];exact Ref.ie
  case h_7=>intro h;simp only[tE,h,if_true];exact Ref.ie
  case h_8=>intro h;simp only[tE,h,if_true];exact Ref.ie
  all_goals exact Ref.UX fun h=>by simp only[decide_eq_true_eq] at h;simp[tE,h,AM.eP,Ref,JH,LQ,bne]
 ·rename_i a b
  split
  case h_1=>intro h;simp[tE,h,AM.eP,Ref]
  case h_8=>trivial
  all_goals simp[tE,AM.eP,Ref]
 ·trivial
def Ye (neg:Bool) (a b:V):bF:=
 match a,b with
 | .nilp,.nilp=> .done (.bool (true !=neg))
 | .nilp,.eptr .. | .nilp,.epk .. | .eptr ..,.nilp| .epk ..,.nilp=> .done (.bool (false !=neg))
 | .epk i z _ 0,.epk i' z' _ 0=> .bW (z=z'∧0 <z) (.done (.bool ((i==i') !=neg)))
 | _,_=> .fail
theorem Ref.Yf {neg:Bool} {a b:V}:Ref (Ye neg a b) (AM.eP ((LY a b).map fun c=> .bool (c !=neg))):=by
 unfold Ye
 split
 all_goals first| exact rfl| trivial| skip
 intro h
 obtain⟨rfl,hz⟩:=h
 simp only[LY,hz,and_self,if_true,ai4]
 exact rfl
def Yg (sz:Nat) (v i:V):bF:=
 match v,i with
 | .sl r g off len,.int _ n=> .bR r fun ⟨cj,gh,di,ji,iD⟩=> .bW (0≤n∧n<len∧gh=sz∧cj=g) (match off with
   | 0=> .done (.ptr r g n.toNat 0)
   | off=> .done (.ptr r g (off+n.toNat) 0))
 | .lit sz' xs,.int _ n=> .bW (0≤n∧sz'=sz) (.ex V (fun e=>xs[n.toNat]? =some e) fun e=> .done (.eptr e 0))
 | .litk sz' xs,.int _ n=> .bW (0≤n∧sz'=sz∧0 <sz) (.ex V (fun e=>xs[n.toNat]? =some e) fun e=> .done (.epk n.toNat sz e 0))
 | _,_=> .fail
theorem Ref.idx {sz:Nat} {v i:V}:Ref (Yg sz v i) (EE sz v i):=by
 unfold Yg
 split
 ·refine⟨_,rfl,fun ⟨gen,sz',arr,fz,es⟩=> ?_⟩
  intro h
  try simp only at h
  simp only[h,and_self,if_true]
  split
  ·simp[Ref]
  ·exact rfl
 ·intro h e he
  simp only[EE,h,and_self,if_true,he]
  exact rfl
 ·intro h e he
  obtain⟨h1,rfl,h3⟩:=h
  simp only[EE,h1,h3,and_self,if_true,he]
  exact rfl
 ·trivial
def Yh (sz:Nat) (v:V) (l h m:Option V):bF:=
 match m with
 | some mx=> (match v,h with
   | .sl r g off len,some hv=> .bR r fun ⟨cj,gh,di,ji,iD⟩=>match iD with
     | some es=> .bW (cj=g∧gh=sz) <| zV 0 l fun l=>zV len (some hv) fun h=>zV 0 (some mx) fun m=> .bW (l≤h∧h≤m∧off+m≤es.length∧m≠l) (.done .any)
     | none=> .fail
   | _,_=> .fail)
 | none=>match v with
   | .sl r g off len=> .bR r fun ⟨cj,gh,di,ji,iD⟩=>match iD with
     | some es=> .bW (cj=g∧gh=sz) <| zV 0 l fun l=>zV len h fun h=> .bW (l≤h∧off+h≤es.length) (.done (.sl r g (off+l) (h - l)))
     | none=> .fail
   | .lit sz' xs=> .bW (sz'=sz) <| zV 0 l fun l=>zV xs.length h fun h=> .bW (l≤h∧h≤xs.length) (.ex (List V) (fun ys=>aG xs l (h - l)=ys) fun ys=> .done (.lit sz ys))
   | .nils=>zV 0 l fun l=>zV 0 h fun h=> .bW (l≤h∧h≤0) (.done .nils)
   | _=> .fail
theorem Ref.slc {sz:Nat} {v:V} {l h m:Option V}:Ref (Yh sz v l h m) (EF sz v l h m):=by
 unfold Yh
 split
 ·split
  ·rename_i mx _ _ r g off len hv
   refine⟨_,rfl,fun ⟨gen,sz',arr,fz,es⟩=> ?_⟩
   cases es with
   | none=>trivial
   | some es=>
     intro hc
     try simp only at hc
     simp only[hc,and_self,if_true]
     refine Ref.UW fun l' hl=>Ref.UW fun h' hh=>Ref.UW fun m' hm=> ?_
     intro hk
     simp only[hl,hh,hm,hk,and_self,if_true,if_false]
     exact rfl
  ·trivial
 ·split
  ·rename_i r g off len
   refine⟨_,rfl,fun ⟨gen,sz',arr,fz,es⟩=> ?_⟩
   cases es with
   | none=>trivial
   | some es=>
     intro hc
     try simp only at hc
     simp only[hc,and_self,if_true]
     refine Ref.UW fun l' hl=>Ref.UW fun h' hh=> ?_
     intro hk
     simp only[hl,hh,hk,and_self,if_true]
     exact rfl
  ·rename_i sz' xs
   intro hc
   refine Ref.UW fun l' hl=>Ref.UW fun h' hh=> ?_
   rintro hk ys rfl
   simp only[EF,zL,hc,if_true,hl,hh,hk,and_self,AM.eP]
   exact rfl
  ·refine Ref.UW fun l' hl=>Ref.UW fun h' hh=> ?_
   intro hk
   have h1:cQ 0 none=some 0:=rfl
   simp only[EF,zL,hl,hh,h1,hk.1,hk.2,Option.isNone_none,AM.eP,aiZ,and_self,or_true,if_true]
   exact rfl
  ·trivial
def zZ (agg:Bool) (sz r g idx off:Nat) (v:V):bF:=
 .bR r fun ⟨cj,gh,di,ji,iD⟩=>match iD with
  | some es=> .bW (cj=g∧ji=false) <| (match di with
    | true=> .ex V (fun e=>es[idx]? =some e) fun e=>Qk agg off sz e v fun e'=> .bO r ⟨cj,gh,di,ji,some (es.set idx e')⟩ (.done (.tuple []))
    | false=>match es,idx with
      | [e],0=>Qk agg off sz e v fun e'=> .bO r ⟨cj,gh,di,ji,some [e']⟩ (.done (.tuple []))
      | es,idx=> .ex V (fun e=>es[idx]? =some e) fun e=>Qk agg off sz e v fun e'=> .bO r ⟨cj,gh,di,ji,some (es.set idx e')⟩ (.done (.tuple [])))
  | none=> .fail
theorem Ref.mi {agg:Bool} {sz r g idx off:Nat} {v:V}:Ref (zZ agg sz r g idx off v) (aM.mi agg sz r g idx off v):=by
 unfold zZ aM.mi
 simp only[UT]
 refine⟨_,rfl,fun ⟨gen,sz',arr,fz,es⟩=> ?_⟩
 cases es with
 | none=>trivial
 | some es=>
   intro hc
   try simp only at hc
   simp only[hc,and_self,if_true]
   have Nf:Ref (.ex V (fun e=>es[idx]? =some e) fun e=>match ku agg off sz e v with
      | some e'=> .bO r ⟨gen,sz',arr,fz,some (es.set idx e')⟩ (.done (.tuple []))
      | none=> .fail) (match es[idx]? with
        | some e=>match ln agg off sz e v with
          | some e'=> .bO r {gen:=gen,sz:=sz',arr:=arr,fz:=fz,es:=some (es.set idx e')} (.done (.tuple []))
          | none=> .fail
        | none=> .fail):=by
     intro e he
     simp only[he]
     cases hp:ku agg off sz e v with
     | none=>trivial
     | some e'=>simp only[xX hp];exact⟨_,rfl,rfl⟩
   rw[hc.1,hc.2] at Nf
   cases arr with
   | true=>exact Nf
   | false=>
     simp only
     split
     ·rename_i e
      simp only[List.getElem?_cons_zero]
      cases hp:ku agg off sz e v with
      | none=>trivial
      | some e'=>simp only[xX hp];exact⟨_,rfl,rfl⟩
     ·exact Nf
def op2 (E:Env):uC→bF
 | .move x=>gZ x .done
 | .pick c a b=>gZ c fun| .bool c=> .ite c (gZ a .done) (gZ b .done) | _=> .fail
 | .new r sz x=>gZ x fun v=>bif nK v sz &&Nat.ble 1 sz then .uD r fun g=> .bO r {gen:=g,sz,arr:=false,fz:=false,es:=some [v]} (.done (.ptr r g 0 0)) else .fail
 | .build cells parts=>zW parts fun ps=>match mg cells ps with
   | some cs=>force cs fun cs=> .done (.agg cs)
   | none=> .fail
 | .buildSlice r sz zero n parts=>zX parts fun ps=>bif nK zero sz &&Nat.ble 1 sz &&Nat.ble (n*sz) 16777216 then(match (bif iC ps n then uI sz 0 ps else none) with
   | some es=> .uD r fun g=> .bO r {gen:=g,sz,arr:=true,fz:=false,es:=some es} (.done (.sl r g 0 n))
   | none=>match mh sz (List.replicate n zero) ps with
     | some es=> .uD r fun g=> .bO r {gen:=g,sz,arr:=true,fz:=false,es:=some es} (.done (.sl r g 0 n))
     | none=> .fail) else .fail
 | .uK r sz=>bif Nat.ble 1 sz then .uD r fun g=> .bO r {gen:=g,sz,arr:=true,fz:=false,es:=some []} (.done (.sl r g 0 0)) else .fail
 | .ren r x=>gZ x fun
   | .sl r1 g off len=>bif Nat.beq r1 r then .done (.sl r1 g off len) else .bR r1 fun ⟨cj,gh,di,ji,iD⟩=> .bW (cj=g) (.uD r fun g'=>
       .bO r ⟨g',gh,di,ji,iD⟩ (.bO r1 ⟨cj+1,gh,di,ji,none⟩ (.done (.sl r g' off len))))
   | v=> .done v
 | .load agg sz x=>gZ x fun
   | .ptr r g idx off=> .bR r fun ⟨cj,gh,di,ji,iD⟩=>match iD with
     | some es=> .bW (cj=g) (match di with
       | true=> .ex V (fun e=>es[idx]? =some e) fun e=>pZ agg off sz e
       |  false=>match es,idx with
          | [e],0=>pZ agg off sz e
          | es,idx=> .ex V (fun e=>es[idx]? =some e) fun e=>pZ agg off sz e)
     | none=> .fail
   | .eptr e off=>pZ agg off sz e
   | .epk _ _ e off=>pZ agg off sz e
   | _=> .fail
 | .store agg sz x v=>gZ x fun
   | .ptr r g idx off=> .bR r fun ⟨cj,gh,di,ji,iD⟩=>match di with
     | true=>gZ v fun v=>Cu v fun v=>zZ agg sz r g idx off v
     | false=>gZ v fun v=>zZ agg sz r g idx off v
   | _=> .fail
 | .nilCheck x=>gZ x fun
   | .ptr r g idx off=> .done (.ptr r g idx off)
   | .eptr e off=> .done (.eptr e off)
   | .epk i z e off=> .done (.epk i z e off)
   | .fn f caps=> .done (.fn f caps)
   | .bfn f caps=> .done (.bfn f caps)
   | _=> .fail
 | .bin op x y=>gZ x fun a=>gZ y fun b=>Yd op a b
 | .eqA neg ks x y=>gZ x fun a=>gZ y fun b=>match a,b with
   | .agg asq,.agg bs=>match cX ks asq bs with
       | some b=> .done (.bool (b !=neg))
       | none=> .fail
   | _,_=> .fail
 | .un op x=>gZ x fun a=>mc (unV op a)
 | .uL k x=>gZ x fun| .int _ n=> .done (.int k (k.wrap n)) | _=> .fail
 | .z6 x=>gZ x fun| .int _ n=> .done (.float (FloatKind.f64.nearest n)) | _=> .fail
 | .z7 k x=>gZ x fun
   | .float b=> .ex Int (fun n=> (FloatKind.f64.decode b).toInt .zero=some n∧k.min≤n∧n≤k.max) fun n=> .done (.int k n)
   | _=> .fail
 | .z8 f caps=>GA caps fun vs=> .done (.fn f vs)
 | .slice sz x lo hi mx=>gZ x fun v=>UU lo fun l=>UU hi fun h=>UU mx fun m=>Yh sz v l h m
 | .fieldAddr off x=>gZ x fun
   | .ptr r g idx o=> .done (.ptr r g idx (o+off))
   | .eptr e o=> .done (.eptr e (o+off))
   | .epk i z e o=> .done (.epk i z e (o+off))
   | _=> .fail
 | .indexAddr sz x i=>gZ x fun v=>gZ i fun i=>Yg sz v i
 | .p8 n sz x i=>gZ x fun v=>gZ i fun i=>match v,i with
   | .ptr r g idx off,.int _ j=> .bW (0≤j∧j<n) (.done (.ptr r g idx (off+j.toNat*sz)))
   | .eptr e off,.int _ j=> .bW (0≤j∧j<n) (.done (.eptr e (off+j.toNat*sz)))
   | _,_=> .fail
 | .qa x i=>gZ x fun v=>gZ i fun i=>match v,i with
   | .str s,.int _ n=> .bW (0≤n) (.ex UInt8 (fun b=>s[n.toNat]? =some b) fun b=> .done (.int .u8 b.toNat))
   | _,_=> .fail
 | .len x=>gZ x fun v=>mc (UR v)
 | .Aa x=>gZ x fun| .str s=> .done (.int .i64 s.length) | _=> .fail
 | .min xs=>GA xs fun vs=>mc (pK min2 vs)
 | .max xs=>GA xs fun vs=>mc (pK max2 vs)
 | .append r sz lim s x=>gZ s fun s=>gZ x fun x=>uJ sz x fun ys=>LX ys fun ys=>EK r sz lim s ys
 | .clear sz zero x=>gZ x fun
   | .nils=> .done (.tuple [])
   | .sl r g off len=> .bR r fun ⟨cj,gh,di,ji,iD⟩=>match iD with
     | some es=> .bW (cj=g∧di=true∧ji=false∧gh=sz∧off+len≤es.length∧aV zero sz=true)
          (.bO r ⟨cj,gh,di,ji,some (overwrite es off (List.replicate len zero))⟩ (.done (.tuple [])))
     | none=> .fail
   | _=> .fail
 | .extract x i=>gZ x fun
   | .tuple vs=>mc (nth vs i)
   | _=> .fail
 | .call r bB f args=>gZ f fun
   | .fn f caps=>GA args fun asq=>bif Nat.beq (r % 16) 4 then .esc (AM.jm E r bB f (asq++caps)) else lr E r bB f (asq++caps)
   | .bfn f first=>GA args fun asq=>match EL first,E.EG f with
     | some (r',g),some h=> .bR r' fun ⟨cj,gh,di,ji,iD⟩=>match iD with
       | some es=> .bW (cj=g∧gh=0∧ji=false∧V.bn asq=true∧es.all V.isTuple=true) (.ex (V×List V) (fun p=>h es asq=some p) fun p=> .bO r' ⟨cj,gh,di,ji,some p.2⟩ (.done p.1))
       | none=> .fail
     | _,_=>lr E r bB f (first++asq)
   | _=> .fail
 | .deep x=>gZ x fun v=> .esc (uM v)
 | .C7 ks agg sz x=>gZ x fun
   | .ptr r g idx off=> .bR r fun ⟨cj,gh,di,ji,iD⟩=>match iD with
     | some es=> .bW (cj=g) (match es,idx with
       | [e],0=>mc ((zS agg off sz e).map (Ji ks))
       | _,_=> .fail)
     | none=> .fail
   | _=> .fail
 | .mkMap r=> .uD r fun g=> .bO r {gen:=g,sz:=0,arr:=false,fz:=false,es:=some []} (.done (.mp r g))
 | .wP q x k v=>gZ x fun
   | .mp r g=>gZ k fun k=>gZ v fun v=>Cu v fun v=> .bR r fun ⟨cj,gh,di,ji,iD⟩=>match iD with
     | some es=> .bW (cj=g∧gh=0∧ji=false∧isKey q k=true∧v.dh=true) (.ex (List V) (fun es'=>jn k v es=some es') fun es'=>
          .bO r ⟨cj,gh,di,ji,some es'⟩ (.done (.tuple [])))
     | none=> .fail
   | _=> .fail
 | .Ab q ok zero x k=>gZ x fun x=>gZ k fun k=> .bW (isKey q k=true) (match x with
   | .mp r g=> .bR r fun ⟨cj,gh,di,ji,iD⟩=>match iD with
     | some es=> .bW (cj=g∧gh=0) (.ex V (fun v=>cW ok zero es k= .done v) fun v=> .done v)
     | none=> .fail
   | .mlit es=> .ex V (fun v=>cW ok zero es k= .done v) fun v=> .done v
   | _=> .fail)
 | .rM ks x k v=>gZ x fun
   | .mp r g=>gZ k fun k=>gZ v fun v=>Cu v fun v=> .bR r fun ⟨cj,gh,di,ji,iD⟩=>match iD with
     | some es=> .bW (cj=g∧gh=0∧ji=false∧(du ks k k).isSome=true∧v.dh=true) (.ex (List V) (fun es'=>dP ks k v es=some es') fun es'=>
          .bO r ⟨cj,gh,di,ji,some es'⟩ (.done (.tuple [])))
     | none=> .fail
   | _=> .fail
 | .rN ks ok zero x k=>gZ x fun x=>gZ k fun k=> .bW ((du ks k k).isSome=true) (match x with
   | .mp r g=> .bR r fun ⟨cj,gh,di,ji,iD⟩=>match iD with
     | some es=> .bW (cj=g∧gh=0) (.ex V (fun v=>dM ks ok zero es k= .done v) fun v=> .done v)
     | none=> .fail
   | .mlit es=> .ex V (fun v=>dM ks ok zero es k= .done v) fun v=> .done v
   | _=> .fail)
 | .lu ks x k=>gZ x fun
   | .mp r g=>gZ k fun k=> .bR r fun ⟨cj,gh,di,ji,iD⟩=>match iD with
     | some es=> .bW (cj=g∧gh=0∧Cv ks k=true∧es.all (GB ks)=true) (.done (eG ks k es))
     | none=> .fail
   | _=> .fail
 | .lz ks x k=>gZ x fun
   | .mp r g=>gZ k fun k=> .bR r fun ⟨cj,gh,di,ji,iD⟩=>match iD with
     | some es=> .bW (cj=g∧gh=0∧ji=false∧Cv ks k=true∧es.all (GB ks)=true) (.ex (V×List V) (fun p=>match eo ks k 0 es with
           | some (some (j,v))=>p=(.tuple [v,.int .i64 j],es)
           | some none=>p=(.tuple [.int .i64 0,.int .i64 es.length],es++[.tuple [k,.int .i64 0]])
           | none=>False) fun p=> .bO r ⟨cj,gh,di,ji,some p.2⟩ (.done p.1))
     | none=> .fail
   | _=> .fail
 | .Ac agg sz x v=>gZ x fun
   | .ptr r g idx off=>gZ v fun v=>zZ agg sz r g idx off v
   | _=> .fail
 | .uN .. => .fail
 | .uO x s v=>gZ x fun
   | .mp r g=>gZ s fun
     | .int .i64 j=>gZ v fun v=>Cu v fun v=> .bR r fun ⟨cj,gh,di,ji,iD⟩=>match iD with
       | some es=> .bW (cj=g∧gh=0∧ji=false∧v.dh=true∧0≤j) (.ex (List V) (fun es'=> ∃k' w,es[j.toNat]? =some (.tuple [k',w])∧es'=es.set j.toNat (.tuple [k',v])) fun es'=> .bO r ⟨cj,gh,di,ji,some es'⟩ (.done (.tuple [])))
       | none=> .fail
     | _=> .fail
   | _=> .fail
 | .uP i r sz lim s x=>gZ (.tmp i) fun
   | .int _ j=>gZ s fun s=>gZ x fun x=>uJ sz x fun ys=>LX ys fun ys=>EK (r+16*j.toNat) sz lim s ys
   | _=> .fail
 | .Ql x=>gZ x fun v=> (match v with
   | .fn .. =>fZ 5 v fun v' rs=>oT rs (.done v')
   | _=>Cu v .done)
 | .Yf neg x y=>gZ x fun a=>gZ y fun b=>Ye neg a b
 | .mapIter r x=>gZ x fun
   | .mlit es=> .uD r fun g=> .bO r {gen:=g,sz:=0,arr:=false,fz:=false,es:=some [.mlit es]} (.done (.it r g))
   | _=> .fail
 | .uQ f xs=>GA xs fun vs=> .done (.bfn f vs)
 | .uR f caps=>zU caps fun vs=> .done (.fn f vs)
 | .bad=> .fail
theorem Ref.op {E:Env} {o:uC}:Ref (op2 E o) (aM E o):=by
 cases o with
 | mkMap r=>exact⟨_,rfl,fun o=> ⟨_,rfl,rfl⟩⟩
 | Ql x=>
   refine Ref.ev fun v=> ?_
   cases v with
   | fn f caps=>exact Ref.eh fun v' rs=>Ref.dC rfl
   | _=>exact Ref.C6 fun v=>rfl
 | wP q x k v=>
   refine Ref.ev fun x=> ?_
   cases x<;>first| trivial| skip
   refine Ref.ev fun k=>Ref.ev fun v=>Ref.C6 fun v=> ⟨_,rfl,fun ⟨gen,sz,arr,fz,es⟩=> ?_⟩
   cases es with
   | none=>trivial
   | some es=>
     rintro hc es' he
     simp only[hc,he,and_self,if_true]
     exact⟨_,by simp[hc],rfl⟩
 | Ab q ok zero x k=>
   refine Ref.ev fun x=>Ref.ev fun k=> ?_
   intro hk
   simp only[hk,if_true]
   cases x<;>first| trivial| skip
   case mp r g=>
     refine⟨_,rfl,fun ⟨gen,sz,arr,fz,es⟩=> ?_⟩
     cases es with
     | none=>trivial
     | some es=>
       rintro hc v hv
       show (if gen=g∧sz=0 then cW ok zero es k else Act.fail)= .done v
       rw[if_pos hc]
       exact hv
   case mlit es=>
     rintro v hv
     exact hv
 | rM ks x k v=>
   refine Ref.ev fun x=> ?_
   cases x<;>first| trivial| skip
   refine Ref.ev fun k=>Ref.ev fun v=>Ref.C6 fun v=> ⟨_,rfl,fun ⟨gen,sz,arr,fz,es⟩=> ?_⟩
   cases es with
   | none=>trivial
   | some es=>
     rintro hc es' he
     simp only[hc,he,and_self,if_true]
     exact⟨_,by simp[hc],rfl⟩
 | rN ks ok zero x k=>
   refine Ref.ev fun x=>Ref.ev fun k=> ?_
   intro hk
   simp only[hk,if_true]
   cases x<;>first| trivial| skip
   case mp r g=>
     refine⟨_,rfl,fun ⟨gen,sz,arr,fz,es⟩=> ?_⟩
     cases es with
     | none=>trivial
     | some es=>
       rintro hc v hv
       show (if gen=g∧sz=0 then dM ks ok zero es k else Act.fail)= .done v
       rw[if_pos hc]
       exact hv
   case mlit es=>
     rintro v hv
     exact hv
 | lu ks x k=>
   refine Ref.ev fun x=> ?_
   cases x<;>first| trivial| skip
   refine Ref.ev fun k=> ⟨_,rfl,fun ⟨gen,sz,arr,fz,es⟩=> ?_⟩
   cases es with
   | none=>trivial
   | some es=>
     rintro⟨c1,c2,c3,c4⟩
     show JI _ _ _ _=_
     simp only[kV,ai4,JI,c4,c1,c2,c3,and_self,if_true]
 | lz ks x k=>
   refine Ref.ev fun x=> ?_
   cases x<;>first| trivial| skip
   refine Ref.ev fun k=> ⟨_,rfl,fun ⟨gen,sz,arr,fz,es⟩=> ?_⟩
   cases es with
   | none=>trivial
   | some es=>
     rintro hc ⟨u,es'⟩ he
     simp only[hc,and_self,if_true]
     revert he
     cases eo ks k 0 es with
     | none=>exact fun he=>he.elim
     | some q=>
       cases q with
       | none=>intro he;simp only[aiX] at he;obtain⟨rfl,rfl⟩:=he;exact⟨_,by simp[hc],rfl⟩
       | some p=>intro he;obtain⟨j,w⟩:=p;simp only[aiX] at he;obtain⟨rfl,rfl⟩:=he;exact⟨_,by simp[hc],rfl⟩
 | Ac agg sz x v=>
   refine Ref.ev fun v=> ?_
   cases v<;>first| trivial| skip
   exact Ref.ev fun v=>Ref.mi
 | uN ks zero x k=>trivial
 | uO x s v=>
   refine Ref.ev fun x=> ?_
   cases x<;>first| trivial| skip
   refine Ref.ev fun s=> ?_
   cases s<;>first| trivial| skip
   rename_i kk j
   cases kk<;>first| trivial| skip
   refine Ref.ev fun v=>Ref.C6 fun v=> ⟨_,rfl,fun ⟨gen,sz,arr,fz,es⟩=> ?_⟩
   cases es with
   | none=>trivial
   | some es=>
     rintro hc es' ⟨k',w,he,rfl⟩
     simp only[hc,he,and_self,if_true]
     exact⟨_,by simp[hc],rfl⟩
 | uP i r sz lim s x=>
   refine⟨_,rfl,fun v=> ?_⟩
   cases v<;>first| trivial| skip
   exact Ref.ev fun s=>Ref.ev fun x=>Ref.content fun ys=>Ref.nJ fun ys=>Ref.append
 | deep=>exact Ref.ev fun v=>rfl
 | C7 ks agg sz x=>
   refine Ref.ev fun v=> ?_
   cases v<;>first| trivial| skip
   case ptr r g idx off=>
     refine⟨_,rfl,fun ⟨gen,sz',arr,fz,es⟩=> ?_⟩
     cases es with
     | none=>trivial
     | some es=>
       intro hc
       try simp only at hc
       simp only[hc,if_true]
       split
       · simp only[List.getElem?_cons_zero]
         exact Ref.eP fun v hv=>by
           obtain⟨v0,h0,rfl⟩:=aiU.1 hv
           rw[n9 h0];rfl
       ·trivial
 | move x=>exact Ref.ev fun v=>rfl
 | pick c a b=>
   refine Ref.ev fun v=> ?_
   cases v
   case bool c=>cases c with
     | true=>exact⟨fun _=>Ref.ev (fun v=>rfl),fun h=> (by cases h)⟩
     | false=>exact⟨fun h=> (by cases h),fun _=>Ref.ev (fun v=>rfl)⟩
   all_goals trivial
 | new r sz x=>
   refine Ref.ev fun v=>Ref.UX fun h=> ?_
   simp only[Bool.and_eq_true] at h
   have h1:=nZ h.1
   have h2:0 <sz:=ako h.2
   simp only[h1,h2,decide_true,ajD,if_true]
   exact⟨_,rfl,fun o=> ⟨_,rfl,rfl⟩⟩
 | build cells parts=>
   refine Ref.mV fun ps=> ?_
   cases hf:mg cells ps with
   | none=>trivial
   | some cs=>simp only[sK hf,force_eq];exact rfl
 | buildSlice r sz zero n parts=>
   refine Ref.ke fun ps=>Ref.UX fun h=> ?_
   simp only[Bool.and_eq_true] at h
   have h1:=nZ h.1.1
   have h2:0 <sz:=ako h.1.2
   have h3:n*sz≤16777216:=ako h.2
   split
   · rename_i es he
     have hl:iC ps n=true:=by
       cases hb:iC ps n with
       | true=>rfl
       | false=>simp[hb] at he
     simp only[hl,cond_true] at he
     have h4:=zY (pre:=[]) (es:=List.replicate n zero) he rfl (by simp[nX hl])
     simp only[ajx] at h4
     simp only[h4,h1,h2,h3,and_self,decide_true,ajD,if_true]
     exact⟨_,rfl,fun o=> ⟨_,rfl,rfl⟩⟩
   · cases hf:mh sz (List.replicate n zero) ps with
     | none=>trivial
     | some es=>
       simp only[sL hf,h1,h2,h3,and_self,decide_true,ajD,if_true]
       exact⟨_,rfl,fun o=> ⟨_,rfl,rfl⟩⟩
 | uK r sz=>
   refine Ref.UX fun h=> ?_
   have h2:0 <sz:=ako h
   simp only[aM,h2,if_true]
   exact⟨_,rfl,fun o=> ⟨_,rfl,rfl⟩⟩
 | ren r x=>
   refine Ref.ev fun v=> ?_
   cases v
   case sl r1 g off len=>
     cases hb:Nat.beq r1 r with
     | true=>
       obtain rfl:=ajs hb
       simp only[if_true,hb,cond_true]
       exact rfl
     | false=>
       have:r1≠r:=Nat.ne_of_beq_eq_false hb
       simp only[hb,cond_false,this,if_false]
       refine⟨_,rfl,fun ⟨gen,sz',arr,fz,es⟩=> ?_⟩
       intro hg
       have hg':gen=g:=hg
       subst hg'
       simp only[if_true]
       exact⟨_,rfl,fun o=> ⟨_,rfl,_,rfl,rfl⟩⟩
   all_goals exact rfl
 | load agg sz x=>
   refine Ref.ev fun v=> ?_
   cases v<;>first| trivial| skip
   case ptr r g idx off=>
     refine⟨_,rfl,fun ⟨gen,sz',arr,fz,es⟩=> ?_⟩
     cases es with
     | none=>trivial
     | some es=>
       intro hc
       try simp only at hc
       simp only[hc,if_true]
       have Nf:Ref (.ex V (fun e=>es[idx]? =some e) fun e=>pZ agg off sz e) (match es[idx]? with
         | some e=>AM.eP (part agg off sz e)
         | none=> .fail):=by
         intro e he
         simp only[he]
         rw[uG];exact Ref.eP fun v hv=>n9 hv
       cases arr with
       | true=>exact Nf
       | false=>
         simp only
         split
         ·rw[uG];exact Ref.eP fun v hv=>n9 hv
         ·exact Nf
   case eptr e off=>simp only[uG];exact Ref.eP fun v hv=>n9 hv
   case epk i z e off=>simp only[uG];exact Ref.eP fun v hv=>n9 hv
 | store agg sz x v=>
   refine Ref.ev fun v=> ?_
   cases v<;>first| trivial| skip
   refine⟨_,rfl,fun ⟨gen,sz',arr,fz,es⟩=> ?_⟩
   cases arr with
   | true=>exact Ref.ev fun v=>Ref.C6 fun v=>Ref.mi
   | false=>exact Ref.ev fun v=>Ref.mi
 | nilCheck x=>exact Ref.ev fun v=>by cases v<;>first| trivial| exact rfl
 | bin op x y=>exact Ref.ev fun a=>Ref.ev fun b=>Ref.bin
 | eqA neg ks x y=>
   refine Ref.ev fun a=>Ref.ev fun b=> ?_
   cases a<;>first| trivial| skip
   cases b<;>first| trivial| skip
   rename_i asq bs
   simp only
   cases cX ks asq bs with
   | none=>trivial
   | some b=>exact rfl
 | un op x=>exact Ref.ev fun a=>Ref.ie
 | uL k x=>exact Ref.ev fun v=>by cases v<;>first| trivial| exact rfl
 | z6 x=>exact Ref.ev fun v=>by cases v<;>first| trivial| exact rfl
 | z7 k x=>
   refine Ref.ev fun v=> ?_
   cases v<;>first| trivial| skip
   rintro n ⟨h1,h2,h3⟩
   simp only[h1,h2,h3,and_self,if_true]
   exact rfl
 | z8 f caps=>exact Ref.evs fun v=>rfl
 | slice sz x lo hi mx=>
   rw[Nb]
   exact Ref.ev fun v=>Ref.PJ fun l=>Ref.PJ fun h=>Ref.PJ fun m=>Ref.slc
 | fieldAddr off x=>exact Ref.ev fun v=>by cases v<;>first| trivial| exact rfl
 | indexAddr sz x i=>
   rw[Cs]
   exact Ref.ev fun v=>Ref.ev fun i=>Ref.idx
 | p8 n sz x i=>
   refine Ref.ev fun v=>Ref.ev fun i=> ?_
   cases v<;>first| trivial| skip
   all_goals
     cases i<;>first| trivial| skip
     intro h
     simp only[h,and_self,if_true]
     exact rfl
 | qa x i=>
   refine Ref.ev fun v=>Ref.ev fun i=> ?_
   cases v<;>first| trivial| skip
   cases i<;>first| trivial| skip
   intro h b hb
   simp only[h,if_true,hb]
   exact rfl
 | len x=>exact Ref.ev fun v=>Ref.ie
 | Aa x=>exact Ref.ev fun v=>by cases v<;>first| trivial| exact rfl
 | min xs=>exact Ref.evs fun vs=>Ref.ie
 | max xs=>exact Ref.evs fun vs=>Ref.ie
 | append r sz lim s x=>
   rw[JA]
   exact Ref.ev fun s=>Ref.ev fun x=>Ref.content fun ys=>Ref.nJ fun ys=>Ref.append
 | clear sz zero x=>
   refine Ref.ev fun d=> ?_
   cases d<;>first| trivial| exact rfl| skip
   refine⟨_,rfl,fun ⟨gen,sz',arr,fz,es⟩=> ?_⟩
   cases es with
   | none=>trivial
   | some es=>
     intro hc
     try simp only at hc
     simp only[hc,and_self,if_true]
     exact⟨_,by simp[hc],rfl⟩
 | extract x i=>
   refine Ref.ev fun v=> ?_
   cases v<;>first| trivial| skip
   simp only[JG]
   exact Ref.ie
 | call r bB f args=>
   refine Ref.ev fun v=> ?_
   cases v<;>first| trivial| skip
   case fn g caps=>
     refine Ref.evs fun asq=> ?_
     cases hb:Nat.beq (r % 16) 4 with
     | true=>simp only[cond_true];exact rfl
     | false=>simp only[cond_false];exact Ref.jm
   case bfn g first=>
     refine Ref.evs fun asq=> ?_
     cases EL first with
     | none=>exact Ref.jm
     | some p=>
       obtain⟨r',g'⟩:=p
       cases E.EG g with
       | none=>exact Ref.jm
       | some h=>
         refine⟨_,rfl,fun ⟨gen,sz,arr,fz,es⟩=> ?_⟩
         cases es with
         | none=>trivial
         | some es=>
           rintro hc ⟨u,es'⟩ he
           simp only[hc,he,and_self,if_true]
           exact⟨_,by simp[hc],rfl⟩
 | Yf neg x y=>exact Ref.ev fun a=>Ref.ev fun b=>Ref.Yf
 | mapIter r x=>
   refine Ref.ev fun v=> ?_
   cases v<;>first| trivial| exact⟨_,rfl,fun o=> ⟨_,rfl,rfl⟩⟩
 | uQ f xs=>exact Ref.evs fun vs=>rfl
 | uR f caps=>exact Ref.lq fun vs=>rfl
 | bad=>trivial
end Go.AM
namespace Go.AM
def LZ (E:Env) (o:b9):bF:=match o.guard with
 | none=>op2 E o.op
 | some (t,want)=> .nW t fun
   | .bool b=> (match want with
     | true=> .ite b (op2 E o.op) (.done dO)
     | false=> .ite b (.done dO) (op2 E o.op))
   | .tuple []=> .done dO
   | _=> .fail
theorem Ref.oper {E:Env} {o:b9}:Ref (LZ E o) (cP E o):=by
 unfold LZ cP
 cases o.guard with
 | none=>exact Ref.op
 | some p=>
   obtain⟨t,want⟩:=p
   refine⟨_,rfl,fun v=> ?_⟩
   cases v<;>first| trivial| skip
   case bool b=>cases b<;>cases want<;>simp[Ref,Ref.op]
   case tuple vs=>cases vs with
    | nil=>exact rfl
    | cons=>trivial
def Ng (E:Env):List b9→SS→(SS→Prop)→Prop
 | [],S,Q=>Q S
 | o::os,S,Q=>fy E (LZ E o) S fun v S' _ _=>match S' with
   | ⟨T,O⟩=>match o.dst with
     | some d=>Ng E os ⟨(d,v)::T,O⟩ Q
     | none=>Ng E os ⟨T,O⟩ Q
def Nh (E:Env):List b9→SS→(List eL→SS→Prop)→Prop
 | [],S,Q=>Q [] S
 | o::os,S,Q=>fy E (LZ E o) S fun v S' r w=>match S' with
   | ⟨T,O⟩=>match o.dst with
     | some d=>Nh E os ⟨(d,v)::T,O⟩ fun fs Yi=>Q (fa o.op ⟨r,.t d::w⟩::fs) Yi
     | none=>Nh E os ⟨T,O⟩ fun fs Yi=>Q (fa o.op ⟨r,w⟩::fs) Yi
section
variable {E:Env}
theorem JJ {a:Act} {σ:St} {Q:V→St→Prop} (h:zh E a σ fun v σ' _ _=>Q v σ'):Ju E a σ Q:=by
 obtain⟨n,v,σ',h1,h2⟩:=h
 exact⟨n,v,σ',h1,h2⟩
theorem tF: ∀ {os:List b9} {S:SS} {Q:SS→Prop} {σ:St},Ng E os S Q→S.On σ→W4 E os σ fun σ'=> ∃S',S'.On σ'∧Q S'
 | [],S,Q,σ,h,ho=>by rw[UM];exact⟨S,ho,h⟩
 | o::os,S,Q,σ,h,ho=>by
   rw[P6]
   refine JJ (pX (dc Ref.oper h ho) ?_)
   rintro v σ' r w ⟨⟨T,O⟩,wF,h'⟩
   have hp:=wF.put o.dst v
   cases hd:o.dst with
   | none=>simp only[hd] at h' hp ⊢;exact tF h' hp
   | some d=>simp only[hd] at h' hp ⊢;exact tF h' hp
theorem tG: ∀ {os:List b9} {S:SS} {Q:List eL→SS→Prop} {σ:St},Nh E os S Q→S.On σ→wpx E os σ fun fs σ'=> ∃S',S'.On σ'∧Q fs S'
 | [],S,Q,σ,h,ho=>by rw[UQ];exact⟨S,ho,h⟩
 | o::os,S,Q,σ,h,ho=>by
   rw[Qf]
   refine pX (dc Ref.oper h ho) ?_
   rintro v σ' r w ⟨⟨T,O⟩,wF,h'⟩
   have hp:=wF.put o.dst v
   cases hd:o.dst with
   | none=>simp only[hd] at h' hp ⊢;exact tG h' hp
   | some d=>simp only[hd] at h' hp ⊢;exact tG h' hp
def thenS (Q:aR→SS→Prop) (k:SS→Prop):aR→SS→Prop
 | .normal,S=>k S
 | .exit id,S=>Q (.exit id) S
 | .ret,S=>Q .ret S
def Qm (id:Nat) (Q:aR→SS→Prop):aR→SS→Prop
 | .exit mO,S=>bif Nat.beq mO id then Q .normal S else Q (.exit mO) S
 | .normal,S=>Q .normal S
 | .ret,S=>Q .ret S
structure aL (E:Env) (b:aY) (S:SS) (Q:aR→SS→Prop):Prop where
 h: ∀σ,S.On σ→nV E (.loop b) σ fun e σ'=> ∃S',S'.On σ'∧Q e S'
structure GC (E:Env) (it nx ne id:Nat) (kT kO:List Nat) (h0 b l:aY) (S:SS) (Q:aR→SS→Prop):Prop where
 h: ∀σ,S.On σ→nV E (.keys it nx ne id kT kO h0 b l) σ fun e σ'=> ∃S',S'.On σ'∧Q e S'
structure tH (E:Env) (x:aU) (ps:List Nat) (a b:aY) (S:SS) (Q:aR→SS→Prop):Prop where
 h: ∀σ,S.On σ→nV E (.pW x ps a b) σ fun e σ'=> ∃S',S'.On σ'∧Q e S'
def kW (E:Env):aY→SS→(aR→SS→Prop)→Prop
 | .skip,S,Q=>Q .normal S
 | .region ops,S,Q=>Ng E ops S (Q .normal)
 | .drawn ops,S,Q=>Nh E ops S fun fs S'=>fN (W6 (ops.map (·.pre)) [] [] fs=true) (Q .normal S')
 | .seq a b,S,Q=>kW E a S (thenS Q fun S'=>kW E b S' Q)
 | .cond c a b,S,Q=>match c with
   | .tmp t=> (match lk S.T t with
     | some (.bool c)=>Br c (kW E a S Q) (kW E b S Q)
     | _=>False)
   | .const (.bool c)=>Br c (kW E a S Q) (kW E b S Q)
   | _=>False
 | .block id b,S,Q=>kW E b S (Qm id Q)
 | .loop b,S,Q=>aL E b S Q
 | .exit id,S,Q=>Q (.exit id) S
 | .ret,S,Q=>Q .ret S
 | .scope b,S,Q=>kW E b S Q
 | .bad,_,_=>False
 | .pW x ps a b,S,Q=>tH E x ps a b S Q
 | .keys it nx ne id kT kO h0 b l,S,Q=>GC E it nx ne id kT kO h0 b l S Q
theorem cF: ∀ {c:aY} {S:SS} {Q:aR→SS→Prop} {σ:St},kW E c S Q→S.On σ→nV E c σ fun e σ'=> ∃S',S'.On σ'∧Q e S'
 | .skip,S,Q,σ,h,ho=>by rw[zK];exact⟨S,ho,h⟩
 | .region ops,S,Q,σ,h,ho=>by rw[Jv];exact tF h ho
 | .drawn ops,S,Q,σ,h,ho=>by
   refine ED ?_
   have h1:=tG h ho
   refine uB h1 ?_
   rintro fs σ' ⟨S',h2,h3,h4⟩
   exact⟨h3,S',h2,h4⟩
 | .seq a b,S,Q,σ,h,ho=>by
   rw[LP]
   refine fM (cF (c:=a) h ho) ?_
   rintro e σ' ⟨S',h1,h2⟩
   cases e with
   | normal=>exact cF (c:=b) h2 h1
   | exit id=>exact⟨S',h1,h2⟩
   | ret=>exact⟨S',h1,h2⟩
 | .cond c a b,S,Q,σ,h,ho=>by
   rw[Qd]
   simp only[kW] at h
   cases c with
   | tmp t=>
     simp only at h
     split at h
     · rename_i c hc
       rw[Gt,ho.1 t _ hc]
       cases c with
       | true=>exact cF (c:=a) (h.1 rfl) ho
       | false=>exact cF (c:=b) (h.2 rfl) ho
     ·exact h.elim
   | const v=>
     cases v
     case bool c=>
       rw[Cr]
       cases c with
       | true=>exact cF (c:=a) (h.1 rfl) ho
       | false=>exact cF (c:=b) (h.2 rfl) ho
     all_goals exact h.elim
 | .block id b,S,Q,σ,h,ho=>by
   rw[Na]
   refine fM (cF (c:=b) h ho) ?_
   rintro e σ' ⟨S',h1,h2⟩
   cases e with
   | normal=>exact⟨S',h1,h2⟩
   | ret=>exact⟨S',h1,h2⟩
   | exit mO=>
     simp only[Qm] at h2
     simp only[LO]
     cases hb:Nat.beq mO id with
     | true=>
       have:=ajs hb
       simp only[hb,cond_true] at h2
       rw[if_pos this];exact⟨S',h1,h2⟩
     | false=>
       have:mO≠id:=Nat.ne_of_beq_eq_false hb
       simp only[hb,cond_false] at h2
       rw[if_neg this];exact⟨S',h1,h2⟩
 | .loop b,S,Q,σ,h,ho=>h.h σ ho
 | .exit id,S,Q,σ,h,ho=>by rw[Qc];exact⟨S,ho,h⟩
 | .ret,S,Q,σ,h,ho=>by rw[UP];exact⟨S,ho,h⟩
 | .scope b,S,Q,σ,h,ho=>by rw[M8];exact cF (c:=b) h ho
 | .pW ..,S,Q,σ,h,ho=>h.h σ ho
 | .keys ..,S,Q,σ,h,ho=>h.h σ ho
 | .bad,_,_,_,h,_=>h.elim
theorem aek {x:V}:aG [x] 0 1=[x]:=rfl
def yU {α:Type}:List (Nat×α)→List (Nat×α)→Prop
 | [],_=>True
 | p::l,m=> (match lk m p.1 with
   | some x=>x=p.2
   | none=>False)∧yU l m
def SS.Sub (S S':SS):Prop:=yU S.T S'.T∧yU S.O S'.O
theorem yU.lk {α:Type}: ∀ {l m:List (Nat×α)},yU l m→ ∀ {n x},lk l n=some x→lk m n=some x
 | [],_,_,n,x,h=>by simp[AM.lk] at h
 | p::l,m,h,n,x,hx=>by
   rw[fb] at hx
   by_cases e:p.1=n
   ·rw[if_pos e] at hx
    injection hx with hx
    have:=h.1
    subst e
    split at this
    ·rename_i y hy;rw[hy,this,hx]
    ·exact this.elim
   ·rw[if_neg e] at hx
    exact yU.lk h.2 hx
theorem SS.Sub.on {S S':SS} (h:S.Sub S') {σ:St} (ho:S'.On σ):S.On σ:=
 ⟨fun t v hv=>ho.1 t v (h.1.lk hv),fun r o hr=>ho.2 r o (h.2.lk hr)⟩
def aaJ (Q:aR→SS→Prop) (I:Nat→SS→Prop) (k:Nat):aR→SS→Prop
 | .normal,S=> ∃j,j<k∧ ∃S',S'.Sub S∧I j S'
 | .exit id,S=>Q (.exit id) S
 | .ret,S=>Q .ret S
theorem aL.of {b:aY} {Q:aR→SS→Prop} (I:Nat→SS→Prop) (hI: ∀k S,I k S→kW E b S (aaJ Q I k)) {k:Nat} {S0 S:SS} (hs:S0.Sub S) (h0:I k S0):aL E b S Q:=by
 refine⟨fun σ ho=> ?_⟩
 refine xU (fun k σ=> ∃S,S.On σ∧I k S) ?_ k σ ⟨S0,hs.on ho,h0⟩
 rintro k σ ⟨S,hS,hi⟩
 refine fM (cF (hI k S hi) hS) ?_
 rintro e σ' ⟨S',h1,h2⟩
 cases e with
 | normal=>
   obtain⟨j,hj,Yi,h3,h4⟩:=h2
   exact⟨j,hj,Yi,h3.on h1,h4⟩
 | exit id=>exact⟨S',h1,h2⟩
 | ret=>exact⟨S',h1,h2⟩
theorem dF: ∀ {a:bF} {S:SS} {Q Q':KK},fy E a S Q→(∀v S' r w,Q v S' r w→Q' v S' r w)→fy E a S Q'
 | .done v,_,_,_,h,k=>k _ _ _ _ h
 | .fail,_,_,_,h,_=>h
 | .nW t f,S,Q,Q',h,k=>by
   simp only[fy] at h ⊢
   split
   ·rename_i v hv
    rw[hv] at h
    exact dF h fun _ _ _ _ h=>k _ _ _ _ h
   ·rename_i hv;rw[hv] at h;exact h
 | .bR t f,S,Q,Q',h,k=>by
   simp only[fy] at h ⊢
   split
   ·rename_i v hv
    rw[hv] at h
    exact dF h fun _ _ _ _ h=>k _ _ _ _ h
   ·rename_i hv;rw[hv] at h;exact h
 | .bO t o f,⟨T,O⟩,Q,Q',h,k=>by
   simp only[fy] at h ⊢
   exact dF h fun _ _ _ _ h=>k _ _ _ _ h
 | .uD t f,S,Q,Q',h,k=>by
   simp only[fy] at h ⊢
   exact fun g=>dF (h g) fun _ _ _ _ h=>k _ _ _ _ h
 | .call f asq c,S,Q,Q',h,k=>by
   simp only[fy] at h ⊢
   obtain⟨res,h1,h2⟩:=h
   exact⟨res,h1,dF h2 k⟩
 | .bW p c,S,Q,Q',h,k=> ⟨h.1,dF h.2 k⟩
 | .ex α p c,S,Q,Q',h,k=>by
   obtain⟨x,h1,h2⟩:=h
   exact⟨x,h1,dF h2 k⟩
 | .ite b x y,S,Q,Q',h,k=> ⟨fun hb=>dF (h.1 hb) k,fun hb=>dF (h.2 hb) k⟩
 | .esc a,S,Q,Q',h,k=> ⟨fun σ ho=>pX (h.h σ ho) fun v σ' r w ⟨S',h1,h2⟩=> ⟨S',h1,k _ _ _ _ h2⟩⟩
 | .alt x y,S,Q,Q',h,k=>by
   rcases h with h| h
   ·exact .inl (dF h k)
   ·exact .inr (dF h k)
 | .all f,S,Q,Q',h,k=>fun n=>dF (h n) k
theorem wQ: ∀ {os:List b9} {S:SS} {Q Q':SS→Prop},Ng E os S Q→(∀S',Q S'→Q' S')→Ng E os S Q'
 | [],_,_,_,h,k=>k _ h
 | o::os,_,_,_,h,k=>dF h fun _ ⟨T,O⟩ _ _ h=>by
   cases hd:o.dst with
   | none=>simp only[hd] at h ⊢;exact wQ h k
   | some d=>simp only[hd] at h ⊢;exact wQ h k
theorem wR: ∀ {os:List b9} {S:SS} {Q Q':List eL→SS→Prop},Nh E os S Q→(∀fs S',Q fs S'→Q' fs S')→Nh E os S Q'
 | [],_,_,_,h,k=>k _ _ h
 | o::os,_,_,_,h,k=>dF h fun _ ⟨T,O⟩ _ _ h=>by
   cases hd:o.dst with
   | none=>simp only[hd] at h ⊢;exact wR h fun _ _ h=>k _ _ h
   | some d=>simp only[hd] at h ⊢;exact wR h fun _ _ h=>k _ _ h
theorem jo: ∀ {c:aY} {S:SS} {Q Q':aR→SS→Prop},kW E c S Q→(∀e S',Q e S'→Q' e S')→kW E c S Q'
 | .skip,_,_,_,h,k=>k _ _ h
 | .region _,_,_,_,h,k=>wQ h fun _ h=>k _ _ h
 | .drawn _,_,_,_,h,k=>wR h fun _ _ h=> ⟨h.1,k _ _ h.2⟩
 | .seq a b,_,Q,Q',h,k=>jo (c:=a) h fun e S' h'=>by
   cases e with
   | normal=>exact jo (c:=b) h' k
   | exit id=>exact k _ _ h'
   | ret=>exact k _ _ h'
 | .cond c a b,S,Q,Q',h,k=>by
   simp only[kW] at h ⊢
   cases c with
   | tmp t=>
     simp only at h ⊢
     split at h
     ·exact⟨fun hb=>jo (c:=a) (h.1 hb) k,fun hb=>jo (c:=b) (h.2 hb) k⟩
     ·exact h.elim
   | const v=>
     cases v
     case bool c=>exact⟨fun hb=>jo (c:=a) (h.1 hb) k,fun hb=>jo (c:=b) (h.2 hb) k⟩
     all_goals exact h.elim
 | .block id b,_,Q,Q',h,k=>jo (c:=b) h fun e S' h'=>by
   cases e with
   | normal=>exact k _ _ h'
   | ret=>exact k _ _ h'
   | exit mO=>
     simp only[Qm] at h' ⊢
     cases hb:Nat.beq mO id with
     | true=>simp only[hb,cond_true] at h' ⊢;exact k _ _ h'
     | false=>simp only[hb,cond_false] at h' ⊢;exact k _ _ h'
 | .loop b,_,_,_,h,k=> ⟨fun σ ho=>fM (h.h σ ho) fun e σ' ⟨S',h1,h2⟩=> ⟨S',h1,k _ _ h2⟩⟩
 | .exit _,_,_,_,h,k=>k _ _ h
 | .ret,_,_,_,h,k=>k _ _ h
 | .scope b,_,_,_,h,k=>jo (c:=b) h k
 | .pW ..,_,_,_,h,k=> ⟨fun σ ho=>fM (h.h σ ho) fun e σ' ⟨S',h1,h2⟩=> ⟨S',h1,k _ _ h2⟩⟩
 | .keys ..,_,_,_,h,k=> ⟨fun σ ho=>fM (h.h σ ho) fun e σ' ⟨S',h1,h2⟩=> ⟨S',h1,k _ _ h2⟩⟩
 | .bad,_,_,_,h,_=>h
inductive aK {α:Type} (Sh:α→SS) (P:α→Prop) (μ:α→Nat) (a:α) (S:SS):Prop
 | mk (a':α) (h1:μ a'<μ a) (h2:P a') (h3: (Sh a').Sub S)
def Qn {α:Type} (Q:aR→SS→Prop) (Sh:α→SS) (P:α→Prop) (μ:α→Nat) (a:α):aR→SS→Prop
 | .normal,S=>aK Sh P μ a S
 | .exit id,S=>Q (.exit id) S
 | .ret,S=>Q .ret S
theorem aL.by {α:Type} {b:aY} {Q:aR→SS→Prop} {S:SS} (Sh:α→SS) (P:α→Prop) (μ:α→Nat) (a0:α) (hs: (Sh a0).Sub S) (h0:P a0)
   (step: ∀a,P a→kW E b (Sh a) (Qn Q Sh P μ a)):aL E b S Q:=by
 refine aL.of (fun k S=> ∃a,k=μ a∧P a∧S=Sh a) ?_ hs ⟨a0,rfl,h0,rfl⟩
 rintro k S ⟨a,rfl,hp,rfl⟩
 refine jo (step a hp) fun e S' h=> ?_
 cases e with
 | normal=>
   obtain⟨a',h1,h2,h3⟩:=h
   exact⟨_,h1,_,h3,a',rfl,h2,rfl⟩
 | exit id=>exact h
 | ret=>exact h
theorem aL.Yj {b:aY} {Q:aR→SS→Prop} {S:SS} (h:aL E b S fun e S'=> ∃S0,S0.Sub S'∧Q e S0):aL E b S Q:=by
 refine⟨fun σ ho=>fM (h.h σ ho) ?_⟩
 rintro e σ' ⟨S',h1,S0,h2,h3⟩
 exact⟨S0,h2.on h1,h3⟩
def aaK (K:SS→Prop):aR→SS→Prop
 | .normal,S=>K S
 | _,_=>False
def GD (S:SS):List Nat→List V→SS
 | p::ps,x::xs=>GD (S.put (some p) x) ps xs
 | _,_=>S
theorem GF: ∀ {ps:List Nat} {x:List V} {S:SS} {T:Nat→V} {O:Nat→Obj},S.On ⟨T,O⟩→(GD S ps x).On ⟨jQ T ps x,O⟩
 | [],x,S,T,O,h=>by simpa [GD,jQ] using h
 | p::ps,[],S,T,O,h=>by simpa [GD,jQ] using h
 | p::ps,x::xs,S,T,O,h=>GF (ps:=ps) (x:=xs) (h.put (some p) x)
inductive Qo {α:Type} (Oh:α→List (Nat×Obj)) (P:α→Prop) (O:List (Nat×Obj)):Prop
 | mk (a:α) (h1:P a) (h2:yU (Oh a) O)
def ael {α:Type} (Q:aR→SS→Prop) (T:List (Nat×V)) (Oh:α→List (Nat×Obj)) (P:α→Prop):aR→SS→Prop
 | .normal,S=>Qo Oh P S.O
 | .exit id,S=>Q (.exit id) ⟨T,S.O⟩
 | .ret,S=>Q .ret ⟨T,S.O⟩
theorem tH.by {α:Type} {fx:aU} {ps:List Nat} {ac b:aY} {S:SS} {Q:aR→SS→Prop} {g:Nat} {caps:List V} (xs:List (List V)) (hf:match fx with| .tmp t=>lk S.T t=some (.fn g caps) | .const v=>v= .fn g caps) (hi:E.iter g caps=some xs) (hl: ∀x ∈ xs,x.length=ps.length)
  (Oh:α→List (Nat×Obj)) (P:Nat→α→Prop) (a0:α) (h0:yU (Oh a0) S.O) (hp:P 0 a0)
  (step: ∀ (k:Nat) x a,xs[k]? =some x→P k a→kW E ac (GD ⟨S.T,Oh a⟩ ps x) (aaK fun S1=>kW E b S1 (ael Q S.T Oh (P (k+1)))))
  (fin: ∀a,P xs.length a→Q .normal ⟨S.T,Oh a⟩):tH E fx ps ac b S Q:=by
 refine⟨fun σ ho=> ?_⟩
 have aaL: ∀ {l:List (Nat×Obj)} {σ:St} {m:List (Nat×Obj)},yU l m→(∀r o,lk m r=some o→σ.O r=o)→ ∀r o,lk l r=some o→σ.O r=o:=fun {l σ m} hs hm=>by
  have h2: (⟨[],m⟩:SS).On σ:=⟨fun t v h=>by simp[lk] at h,hm⟩
  exact(SS.Sub.on (S:=⟨[],l⟩) (S':=⟨[],m⟩) ⟨trivial,hs⟩ h2).2
 have run: ∀ (rest:List (List V)) (k:Nat) (a:α) (O:Nat→Obj),xs.drop k=rest→P k a→(∀r o,lk (Oh a) r=some o→O r=o)→k≤xs.length→ ∃n e σ',uS (exec E n) ps ac b σ.T rest O=some (e,σ')∧ ∃S',S'.On σ'∧Q e S':=by
  intro rest
  induction rest with
  | nil=>
    intro k a O hd JK hO Yk
    have hk:xs.length≤k:=by
      have:=congrArg List.length hd
      simp at this;omega
    have:k=xs.length:=abV
    subst this
    exact⟨0,.normal,⟨σ.T,O⟩,rfl,⟨S.T,Oh a⟩,⟨ho.1,hO⟩,fin a JK⟩
  | cons x rest ih=>
    intro k a O hd JK hO Yk
    have hk:k<xs.length:=by
      rcases akn k xs.length with h| h
      ·exact h
      ·rw[akB h] at hd;simp at hd
    rw[ajf hk] at hd
    injection hd with hx hd
    have Uw:xs[k]? =some x:=by rw[aiW hk,hx]
    obtain⟨n1,e1,σ1,h1,S1,h2,h3⟩:=cF (step k x a Uw JK) (GF (x:=x) (ps:=ps) (S:=⟨S.T,Oh a⟩) (T:=σ.T) (O:=O) ⟨ho.1,hO⟩)
    cases e1 with
    | exit id=>exact h3.elim
    | ret=>exact h3.elim
    | normal=>
      obtain⟨n2,e2,σ2,k1,S2,k2,k3⟩:=cF h3 h2
      cases e2 with
      | normal=>
        obtain⟨a',q1,q2⟩:=k3
        obtain⟨n3,e,σ',l1,l2⟩:=ih (k+1) a' σ2.O hd q1 (aaL (σ:=σ2) q2 k2.2) abV
        refine⟨max n1 (max n2 n3),e,σ',?_,l2⟩
        have m1:=cE (E:=E) (ajv n1 (max n2 n3)) _ _ _ h1
        have m2:=cE (E:=E) (ajb (ajv n2 n3) (ajj n1 _)) _ _ _ k1
        have m3:=wI (fun c σ x h=>cE (E:=E) (ajb (ajj n2 n3) (ajj n1 _)) c σ x h) l1
        simp only[uS,m1,m2,m3]
      | exit id=>
        refine⟨max n1 n2,.exit id,⟨σ.T,σ2.O⟩,?_,⟨S.T,S2.O⟩,⟨ho.1,k2.2⟩,k3⟩
        have m1:=cE (E:=E) (ajv n1 n2) _ _ _ h1
        have m2:=cE (E:=E) (ajj n1 n2) _ _ _ k1
        simp only[uS,m1,m2]
      | ret=>
        refine⟨max n1 n2,.ret,⟨σ.T,σ2.O⟩,?_,⟨S.T,S2.O⟩,⟨ho.1,k2.2⟩,k3⟩
        have m1:=cE (E:=E) (ajv n1 n2) _ _ _ h1
        have m2:=cE (E:=E) (ajj n1 n2) _ _ _ k1
        simp only[uS,m1,m2]
 obtain⟨n,e,σ',h1,h2⟩:=run xs 0 a0 σ.O abW hp (aaL (σ:=σ) h0 ho.2) (ajG _)
 refine⟨n+1,e,σ',?_,h2⟩
 have UY:bu σ fx= .fn g caps:=by
  cases fx with
  | tmp t=>exact ho.1 t _ hf
  | const v=>exact hf
 have iO:xs.all (fun x=>Nat.beq x.length ps.length)=true:=by
  rw[aiY];intro x hx;rw[akb];exact hl x hx
 simp only[exec,aJ,UY,hi,iO,if_true,h1]
def Qp (K:SS→Prop):aR→SS→Prop
 | .normal,S=>K S
 | _,_=>False
def aaM (id:Nat) (K:SS→Prop):aR→SS→Prop
 | .exit mO,S=>fN (mO=id) (K S)
 | _,_=>False
theorem JL {α:Type}: ∀ {l:List (Nat×α)} {n:Nat} {v:α},lk l n=some v→(n,v) ∈ l
 | [],n,v,h=>by simp[lk] at h
 | (k,u)::l,n,v,h=>by
   rw[fb] at h
   split at h
   · rename_i e
     simp only at e
     subst e
     injection h with h;subst h;simp
   ·exact List.mem_cons_of_mem _ (JL h)
theorem GC.by {it nx ne id:Nat} {kT kO:List Nat} {h0 b l:aY} {Q:aR→SS→Prop} {S:SS} {r g:Nat} {arr:Bool} {es:List V} (Sh:List V→SS) (Sf:SS)
   (hT:lk S.T it=some (.it r g)) (hO:lk S.O r=some ⟨g,0,arr,false,some [.mlit es]⟩) (hs0: (Sh []).Sub ⟨S.T,(r,⟨g,0,false,false,none⟩)::S.O⟩)
   (wS: ∀d,lk (Sh d).T it=some (.it r g)) (hg: ∀d,∃o,lk (Sh d).O r=some o∧o.gen=g) (bq: ∀e ∈ es,∃k v,e= .tuple [k,v])
   (step: ∀d k v rest,(d++ .tuple [k,v]::rest).Perm es→kW E h0 (SS.put (Sh d) (some nx) (.tuple [.bool true,k,v])) (Qp fun S1=> (lk S1.T it=some (.it r g)∧ ∃o,lk S1.O r=some o∧o.gen=g)∧kW E b (SS.put S1 (some ne) (.tuple [k,v])) (Qp fun S'=> (Sh (d++[.tuple [k,v]])).Sub S')))
   (last: ∀d,d.Perm es→kW E h0 (SS.put (Sh d) (some nx) (.tuple [.bool false])) (aaM id fun S'=>kW E l S' (Qp fun Yi=>Sf.Sub Yi)))
   (W8:kT.all (fun t=> (lk Sf.T t).isSome)=true) (W9:kO.all (fun t=> (lk Sf.O t).isSome)=true) (fT:Sf.T.all (fun p=>kT.contains p.1)=true) (fO:Sf.O.all (fun p=>kO.contains p.1)=true)
   (hQ:Q .normal Sf):GC E it nx ne id kT kO h0 b l S Q:=by
 refine⟨fun σ ho=> ?_⟩
 have aem: (Sh []).On ⟨σ.T,da σ.O r ⟨g,0,false,false,none⟩⟩:=by
   refine hs0.on ⟨fun t v hv=>ho.1 t v hv,fun x o hx=> ?_⟩
   rw[fb] at hx
   show da σ.O r _ x=o
   unfold da
   by_cases e:r=x
   ·simp only[e,if_true,aiT] at hx ⊢;exact hx
   ·rw[if_neg e] at hx;rw[if_neg (aj4 e)];exact ho.2 x o hx
 have Xa: ∀d (τ:St),(Sh d).On τ→yV it r g τ=true:=fun d τ hτ=>by
   obtain⟨o,h1,h2⟩:=hg d
   unfold yV
   rw[hτ.1 _ _ (wS d),hτ.2 _ _ h1]
   simp[h2]
 have run: ∀ (rest d:List V) (τ:St),(d++rest).Perm es→(Sh d).On τ→ ∃n σp,runK (exec E n) it r g nx ne id h0 b l rest τ=some σp∧Sf.On σp:=by
   intro rest
   induction rest with
   | nil=>
     intro d τ hp hτ
     obtain⟨n1,e,τ1,h1,S1,h2,h3⟩:=cF (last d (by simpa using hp)) (hτ.put (some nx) (.tuple [.bool false]))
     cases e with
     | normal=>exact h3.elim
     | ret=>exact h3.elim
     | exit mO=>
       obtain⟨rfl,h3⟩:=h3
       obtain⟨n2,e2,τ2,k1,S2,k2,k3⟩:=cF h3 h2
       cases e2 with
       | exit mO=>exact k3.elim
       | ret=>exact k3.elim
       | normal=>
         refine⟨max n1 n2,τ2,?_,SS.Sub.on k3 k2⟩
         have m1:=cE (E:=E) (ajv n1 n2) _ _ _ h1
         have m2:=cE (E:=E) (ajj n1 n2) _ _ _ k1
         simp only[runK,Xa d τ hτ,if_true,m1,m2]
   | cons x rest ih=>
     intro d τ hp hτ
     obtain⟨k,v,rfl⟩:=bq x (hp.mem_iff.1 abW)
     obtain⟨n1,e,τ1,h1,S1,h2,h3⟩:=cF (step d k v rest hp) (hτ.put (some nx) (.tuple [.bool true,k,v]))
     cases e with
     | exit mO=>exact h3.elim
     | ret=>exact h3.elim
     | normal=>
       obtain⟨⟨t1,o1,t2,t3⟩,h3⟩:=h3
       have aen:yV it r g τ1=true:=by
         unfold yV
         rw[h2.1 _ _ t1,h2.2 _ _ t2]
         simp[t3]
       obtain⟨n3,e3,τ3,l1,S3,l2,l3⟩:=cF h3 (h2.put (some ne) (.tuple [k,v]))
       cases e3 with
       | exit mO=>exact l3.elim
       | ret=>exact l3.elim
       | normal=>
         obtain⟨n2,σp,k1,k2⟩:=ih (d++[.tuple [k,v]]) τ3 (by simpa using hp) (SS.Sub.on l3 l2)
         refine⟨max n1 (max n3 n2),σp,?_,k2⟩
         have m1:=cE (E:=E) (ajv n1 (max n3 n2)) _ _ _ h1
         have m3:=cE (E:=E) (ajb (ajv n3 n2) (ajj n1 _)) _ _ _ l1
         have m2:=rK (fun c σ x h=>cE (E:=E) (ajb (ajj n3 n2) (ajj n1 _)) c σ x h) k1
         simp only[runK,Xa d τ hτ,aen,if_true,m1,m3,m2]
 obtain⟨n,ys,h1,h2,h3⟩:=Ad (f:=fun n p=>runK (exec E n) it r g nx ne id h0 b l p ⟨σ.T,da σ.O r ⟨g,0,false,false,none⟩⟩) (P:=fun σp=>Sf.On σp)
   (fun n m p y Qq h=>rK (fun c σ x h=>cE (E:=E) Qq c σ x h) h) (l:=perms es) fun p hp=>run p [] _ (by simpa using xY hp) aem
 have cL:perms es≠[]:=fun e=>by have:=qb (List.Perm.refl es);rw[e] at this;simp at this
 match ys,h2,h3,h1 with
 | [],h2,_,_=>exact absurd (ajT.1 h2.symm) cL
 | σ1::σs,_,h3,h1=>
   have Yl:σ.T it= .it r g:=ho.1 _ _ hT
   have hO':=ho.2 _ _ hO
   have Xb:σs.all (agree kT kO σ1)=true:=by
     rw[aiY]
     intro τ hτ
     have o1:=h3 σ1 abW
     have o2:=h3 τ (by simp[hτ])
     simp only[agree,Bool.and_eq_true,aiY] at W8 W9 ⊢
     refine⟨fun t ht=> ?_,fun x hx=> ?_⟩
     · obtain⟨v,hv⟩:=ai1.1 (W8 t ht)
       rw[o1.1 t v hv,o2.1 t v hv];exact V.mj v
     · obtain⟨v,hv⟩:=ai1.1 (W9 x hx)
       rw[o1.2 x v hv,o2.2 x v hv];exact Obj.mj v
   refine⟨n+1,.normal,forget kT kO σ1 σs,?_,Sf,?_,hQ⟩
   ·simp only[exec,aJ,Yl,hO',and_self,if_true,h1,Xb]
   · have o1:=h3 σ1 abW
     refine⟨fun t v hv=> ?_,fun x o hx=> ?_⟩
     · have:=aiY.1 fT _ (JL hv)
       simp only[forget,this,if_true]
       exact o1.1 t v hv
     · have:=aiY.1 fO _ (JL hx)
       simp only[forget,this,if_true]
       exact o1.2 x o hx
theorem Xc (i:Nat) (h:i< 4611686018427387904):V.int .i64 (IntKind.i64.wrap ((i:Int)+1))=V.int .i64 ((i+1:Nat):Int):=by
 rw[wrap64 abV abV];rfl
def JM ( S:SS):List uA→(List V→Prop)→Prop
 | [],k=>k []
 | .tmp t::rs,k=> (match lk S.T t with
   | some v=>JM S rs fun vs=>k (v::vs)
   | none=>False)
 | .cell t agg sz::rs,k=> (match lk S.T t with
   | some (.ptr r g idx off)=> (match lk S.O r with
     | some ⟨cj,_,_,_,iD⟩=> (match iD with
       | some [e]=> (match idx with
         | 0=>fN (cj=g) (match zS agg off sz e with
           | some v=>JM S rs fun vs=>k (v::vs)
           | none=>False)
         | _+1=>False)
       | _=>False)
     | none=>False)
   | _=>False)
theorem tI {S:SS} {σ:St} (ho:S.On σ): ∀ {rs:List uA} {k:List V→Prop},JM S rs k→ ∃vs,eC σ rs=some vs∧k vs
 | [],k,h=> ⟨[],rfl,h⟩
 | .tmp t::rs,k,h=>by
   simp only[JM] at h
   split at h
   ·rename_i v hv
    obtain⟨vs,h1,h2⟩:=tI ho h
    exact⟨v::vs,by simp[eC,ml,h1,ho.1 t v hv],h2⟩
   ·exact h.elim
 | .cell t agg sz::rs,k,h=>by
   simp only[JM] at h
   split at h
   ·rename_i r g idx off hv
    split at h
    ·rename_i cj gh di ji iD hr
     split at h
     ·rename_i e
      split at h
      ·obtain⟨hg,h⟩:=h
       split at h
       ·rename_i v hp
        obtain⟨vs,h1,h2⟩:=tI ho h
        refine⟨v::vs,?_,h2⟩
        simp[eC,ml,h1,ho.1 t _ hv,ho.2 r _ hr,hg,n9 hp]
       ·exact h.elim
      ·exact h.elim
     ·exact h.elim
    ·exact h.elim
   ·exact h.elim
def xZ (S:SS):Nat→List V→(List (Nat×List V)→Prop)→Prop
 | _,[],k=>k []
 | i,.msl sz _ _ _::asq,k| i,.mptr sz _ _ _::asq,k=> (match lk S.O i with
   | some ⟨cj,gh,_,ji,iD⟩=> (match iD with
     | some es=>fN (ji=false∧gh=sz∧V.al es=true) (xZ S (i+1) asq fun outs=>k ((cj,es)::outs))
     | none=>False)
   | none=>False)
 | i,_::asq,k=>xZ S (i+1) asq k
theorem mX {S:SS} {σ:St} (ho:S.On σ): ∀ {asq:List V} {i:Nat} {k:List (Nat×List V)→Prop},xZ S i asq k→ ∃outs,cO σ.O i asq=some outs∧k outs
 | [],i,k,h=> ⟨[],by simp[cO],by simpa [xZ] using h⟩
 | a::asq,i,k,h=>by
   cases a
   case msl sz es' off len=>
    simp only[xZ] at h
    split at h
    ·rename_i cj gh di ji iD hr
     split at h
     ·   rename_i es
         obtain⟨hc,h⟩:=h
         obtain⟨outs,h1,h2⟩:=mX ho h
         refine⟨_,?_,h2⟩
         simp[cO,ho.2 i _ hr,h1,hc]
     ·exact h.elim
    ·exact h.elim
   case mptr sz es' off len=>
    simp only[xZ] at h
    split at h
    ·rename_i cj gh di ji iD hr
     split at h
     ·   rename_i es
         obtain⟨hc,h⟩:=h
         obtain⟨outs,h1,h2⟩:=mX ho h
         refine⟨_,?_,h2⟩
         simp[cO,ho.2 i _ hr,h1,hc]
     ·exact h.elim
    ·exact h.elim
   all_goals
    simp only[xZ] at h
    obtain⟨outs,h1,h2⟩:=mX ho h
    exact⟨outs,by simp[cO,h1],h2⟩
def uT ( n:Nat) (S:SS) (c:V) (k:V→List Nat→Prop):Prop:=
 match c with
 | .sl r g off len=> (match lk S.O r with
   | some ⟨cj,gh,di,ji,iD⟩=> (match iD with
     | some es=>fN (cj=g∧di=true) (bZ (fun ys=>aG es off len=ys) fun ys=>fN (off+len≤es.length∧V.al ys=true)
        (bif Nat.blt r n then k (.sl r g off len) [r] else bif ji then k (.lit gh ys) [] else k (.own gh ys) [r]))
     | none=>False)
   | none=>False)
 | c=>fN (V.aw c=true) (k c [])
theorem qc {n:Nat} {S:SS} {σ:St} (ho:S.On σ) {c:V} {k:V→List Nat→Prop} (h:uT n S c k): ∃v rs,cG n σ c=some (v,rs)∧k v rs:=by
 unfold uT at h
 split at h
 ·rename_i r g off len
  split at h
  ·rename_i cj gh di ji iD hr
   split at h
   ·rename_i es
    obtain⟨⟨h1,h2⟩,ys,rfl,⟨h3,h4⟩,h⟩:=h
    have e1:=ho.2 r _ hr
    simp only[cG,e1,h1,h2,h3,h4,and_self,if_true]
    cases hb:Nat.blt r n with
    | true=>
      have:r<n:=by simpa [Nat.blt_eq] using hb
      simp only[hb,cond_true] at h
      rw[if_pos this];exact⟨_,_,rfl,h⟩
    | false=>
      have: ¬r<n:=by intro hc;rw[←Nat.blt_eq,hb] at hc;simp at hc
      simp only[hb,cond_false] at h
      rw[if_neg this]
      cases hz:ji with
      | true=>simp only[hz,cond_true] at h;exact⟨_,_,by simp[e1,hz],h⟩
      | false=>simp only[hz,cond_false] at h;exact⟨_,_,by simp[e1,hz],h⟩
   ·exact h.elim
  ·exact h.elim
 ·rename_i hn
  refine⟨c,[],?_,h.rest⟩
  have h:=h.side
  unfold cG
  cases c
  case sl=>exact absurd rfl (hn _ _ _ _)
  all_goals simp_all
def rO (n:Nat) (S:SS):List V→(List V→List Nat→Prop)→Prop
 | [],k=>k [] []
 | c::cs,k=>uT n S c fun c' r=>rO n S cs fun cU rs=>k (c'::cU) (r++rs)
theorem kL {n:Nat} {S:SS} {σ:St} (ho:S.On σ): ∀ {cs:List V} {k:List V→List Nat→Prop},rO n S cs k→ ∃v rs,cm n σ cs=some (v,rs)∧k v rs
 | [],_,h=> ⟨[],[],rfl,h⟩
 | c::cs,k,h=>by
   obtain⟨v,r,h1,h2⟩:=qc ho h
   obtain⟨vs,rs,h3,h4⟩:=kL ho h2
   exact⟨_,_,by simp[cm,h1,h3],h4⟩
def Qr (n:Nat) (S:SS) (v:V) (k:V→List Nat→Prop):Prop:=
 bif V.aw v then k v [] else
 match v with
 | .agg cs=>rO n S cs fun cU rs=>k (.agg cU) rs
 | .fn f cs=>rO n S cs fun cU rs=>fN (V.al cU=true) (k (.fn f cU) rs)
 | v=>uT n S v k
theorem GG {n:Nat} {S:SS} {σ:St} (ho:S.On σ) {v:V} {k:V→List Nat→Prop} (h:Qr n S v k): ∃v' rs,dQ n σ v=some (v',rs)∧k v' rs:=by
 unfold Qr at h
 unfold dQ
 cases hp:V.aw v with
 | true=>simp only[hp,cond_true] at h;exact⟨v,[],abW,h⟩
 | false=>
   simp only[hp,cond_false] at h
   simp only[ai3,if_false]
   split at h
   ·obtain⟨cU,rs,h1,h2⟩:=kL ho h
    exact⟨_,_,by simp[h1],h2⟩
   ·obtain⟨cU,rs,h1,h2,h3⟩:=kL ho h
    exact⟨_,_,by simp[h1,h2],h3⟩
   ·obtain⟨v',rs,h1,h2⟩:=qc ho h
    exact⟨v',rs,by cases v<;>simp_all,h2⟩
def JN (n:Nat) (S:SS):List V→(List V→List Nat→Prop)→Prop
 | [],k=>k [] []
 | c::cs,k=>Qr n S c fun c' r=>JN n S cs fun cU rs=>k (c'::cU) (r++rs)
theorem uU {n:Nat} {S:SS} {σ:St} (ho:S.On σ): ∀ {cs:List V} {k:List V→List Nat→Prop},JN n S cs k→ ∃v rs,dv n σ cs=some (v,rs)∧k v rs
 | [],_,h=> ⟨[],[],rfl,h⟩
 | c::cs,k,h=>by
   obtain⟨v,r,h1,h2⟩:=GG ho h
   obtain⟨vs,rs,h3,h4⟩:=uU ho h2
   exact⟨_,_,by simp[dv,h1,h3],h4⟩
def qd (rs:List uA) (args:List V) (S:SS) (R:eZ→Prop):Prop:=
 JM S rs fun vs=>xZ S 0 args fun outs=>JN args.length S vs fun vs' refs=>fN (distinct refs=true) (match vs' with
  | [v]=>R ⟨v,outs⟩
  | vs'=>R ⟨.tuple vs',outs⟩)
def yW (rs:List uA) (args:List V) (R:eZ→Prop):aR→SS→Prop
 | .exit _,_=>False
 | .normal,S=>qd rs args S R
 | .ret,S=>qd rs args S R
theorem oW {rs:List uA} {args:List V} {S:SS} {R:eZ→Prop} {σ:St} (ho:S.On σ) (h:qd rs args S R): ∃res,leave ⟨0,0,[],rs,.skip,none⟩ args σ=some res∧R res:=by
 obtain⟨vs,h1,h⟩:=tI ho h
 obtain⟨outs,h2,h⟩:=mX ho h
 obtain⟨vs',refs,h3,h4,h⟩:=uU ho h
 simp only[leave,h1,h2,h3]
 split at h
 ·rename_i v
  exact⟨_,by simp[h4],h⟩
 ·rename_i hn
  refine⟨⟨.tuple vs',outs⟩,?_,h⟩
  split
  ·rename_i v rs' heq
   injection heq with e1;injection e1 with e1 e2
   exact absurd e1 (by intro hh;exact hn v hh)
  ·rename_i vs2 rs2 heq
   injection heq with e1;injection e1 with e1 e2
   subst e1 e2
   simp[h4]
  ·rename_i heq;simp at heq
def nL:Nat→List V→List (Nat×V)
 | _,[]=> []
 | i,.msl _ _ off len::asq=> (i,.sl i 0 off len)::nL (i+1) asq
 | i,.mptr _ _ idx off::asq=> (i,.ptr i 0 idx off)::nL (i+1) asq
 | i,v::asq=> (i,v)::nL (i+1) asq
def nM:Nat→List V→List (Nat×Obj)
 | _,[]=> []
 | i,.msl sz es _ _::asq=> (i,{gen:=0,sz,arr:=true,fz:=false,es:=some es})::nM (i+1) asq
 | i,.mptr sz es _ _::asq=> (i,{gen:=0,sz,arr:=false,fz:=false,es:=some es})::nM (i+1) asq
 | i,_::asq=>nM (i+1) asq
def tJ (args:List V):SS:=⟨nL 0 args,nM 0 args⟩
theorem C8: ∀ (asq pre:List V) (t:Nat) (v:V),lk (nL pre.length asq) t=some v→(enter (pre++asq)).T t=v
 | [],_,_,_,h=>by simp[nL,lk] at h
 | a::asq,pre,t,v,h=>by
   have ih:=C8 asq (pre++[a]) t v
   simp only[List.length_append,ai5,ajc,ajF,ajR,List.singleton_append] at ih
   have key: ∀x,lk ((pre.length,x)::nL (pre.length+1) asq) t=some v→(enter (pre++a::asq)).T pre.length=x→(enter (pre++a::asq)).T t=v:=by
    intro x hx hv
    rw[fb] at hx
    by_cases e:pre.length=t
    ·simp only[e,if_true,aiT] at hx;rw[←hx,←hv,e]
    ·simp only[e,if_false] at hx;exact ih hx
   have hg: (pre++a::asq)[pre.length]? =some a:=abW
   cases a
   case msl=>exact key _ (by simpa [nL] using h) (by simp[enter,hg])
   case mptr=>exact key _ (by simpa [nL] using h) (by simp[enter,hg])
   all_goals exact key _ (by simpa [nL] using h) (by simp[enter,hg])
theorem C9: ∀ (asq pre:List V) (t:Nat) (v:Obj),lk (nM pre.length asq) t=some v→(enter (pre++asq)).O t=v
 | [],_,_,_,h=>by simp[nM,lk] at h
 | a::asq,pre,t,v,h=>by
   have ih:=C9 asq (pre++[a]) t v
   simp only[List.length_append,ai5,ajc,ajF,ajR,List.singleton_append] at ih
   have key: ∀x,lk ((pre.length,x)::nM (pre.length+1) asq) t=some v→(enter (pre++a::asq)).O pre.length=x→(enter (pre++a::asq)).O t=v:=by
    intro x hx hv
    rw[fb] at hx
    by_cases e:pre.length=t
    ·simp only[e,if_true,aiT] at hx;rw[←hx,←hv,e]
    ·simp only[e,if_false] at hx;exact ih hx
   have hg: (pre++a::asq)[pre.length]? =some a:=abW
   cases a
   case msl=>exact key _ (by simpa [nM] using h) (by simp[enter,hg])
   case mptr=>exact key _ (by simpa [nM] using h) (by simp[enter,hg])
   all_goals exact ih (by simpa [nM] using h)
theorem wT (args:List V): (tJ args).On (enter args):=
 ⟨fun t v h=>C8 args [] t v h,fun r o h=>C9 args [] r o h⟩
theorem Ev.bD {f:Nat} {af:aQ} {args:List V} {R:eZ→Prop} (hf:E.fn f=some af) (hx:E.ext f args=none) (hl:args.length=af.nparams)
  (h:kW E af.body (tJ args) (yW af.results args R)) (ht:af.tag=none:=by rfl) (hh:E.hyb f=none:=by rfl): ∃res,Ev E f args res∧R res:=by
 obtain⟨n,e,σ',h1,S',h2,h3⟩:=cF h (wT args)
 have key: ∀ {e},exec E n af.body (enter args)=some (e,σ')→(e= .normal∨e= .ret)→qd af.results args S' R→ ∃res,Ev E f args res∧R res:=by
  intro e h1 he Ni
  obtain⟨res,h4,h5⟩:=oW h2 Ni
  refine⟨res,⟨n,?_⟩,h5⟩
  unfold call dt
  rw[hh];simp only[eM]
  rw[hx];simp only[hf,hl,if_true,ht,h1]
  rcases he with rfl| rfl<;>exact h4
 cases e with
 | normal=>exact key h1 (.inl rfl) h3
 | ret=>exact key h1 (.inr rfl) h3
 | exit id=>exact h3.elim
theorem Ev.aD {f:Nat} {af:aQ} {args:List V} {res:eZ} (hf:E.fn f=some af) (hx:E.ext f args=none) (hl:args.length=af.nparams)
  (h:kW E af.body (tJ args) (yW af.results args (· =res))) (ht:af.tag=none:=by rfl) (hh:E.hyb f=none:=by rfl):Ev E f args res:=by
 obtain⟨r,h1,rfl⟩:=Ev.bD hf hx hl h ht hh
 exact h1
theorem Ev.Xd {f:Nat} {af:aQ} {args:List V} {R:eZ→Prop} {p:Nat×Nat} {Qs:List V} (hf:E.fn f=some af) (hx:E.ext f args=none) (hl:args.length=af.nparams) (ht:af.tag=some p) (hp:V.al args=true) (hm:cH p args=Qs)
  (h:kW E af.body (tJ Qs) (yW af.results Qs R)) (hh:E.hyb f=none:=by rfl): ∃res,Ev E f args ⟨res.val.erase,[]⟩∧R res:=by
 subst hm
 obtain⟨n,e,σ',h1,S',h2,h3⟩:=cF h (wT (cH p args))
 have key: ∀ {e},exec E n af.body (enter (cH p args))=some (e,σ')→(e= .normal∨e= .ret)→qd af.results (cH p args) S' R→ ∃res,Ev E f args ⟨res.val.erase,[]⟩∧R res:=by
  intro e h1 he Ni
  obtain⟨res,h4,h5⟩:=oW h2 Ni
  refine⟨res,⟨n,?_⟩,h5⟩
  unfold call dt
  rw[hh];simp only[eM]
  rw[hx];simp only[hf,hl,if_true,ht,hp,h1]
  have h4':leave af (cH p args) σ'=some res:=h4
  rcases he with rfl| rfl<;>simp only[h4',ai4]
 cases e with
 | normal=>exact key h1 (.inl rfl) h3
 | ret=>exact key h1 (.inr rfl) h3
 | exit id=>exact h3.elim
end
end Go.AM
namespace Go.AM
inductive oX {α:Type} (Sh:α→SS) (P:α→Prop) (S:SS):Prop
 | mk (x:α) (h2:P x) (h3: (Sh x).Sub S)
def aaN {α:Type} (Q:aR→SS→Prop) (Sh:α→SS) (P:α→Prop):aR→SS→Prop
 | .normal,S=>oX Sh P S
 | .exit id,S=>Q (.exit id) S
 | .ret,S=>Q .ret S
def Nj:Nat→aY→aY
 | 0,_=> .skip
 | n+1,.seq a b=> .seq a (Nj n b)
 | _+1,c=>c
def Da:Nat→aY→aY
 | 0,c=>c
 | n+1,.seq _ b=>Da n b
 | _+1,_=> .skip
section
variable {E:Env}
def WS (E:Env) (c:aY) (S:SS) (Q:aR→SS→Prop):Prop:= ∀σ,S.On σ→nV E c σ fun e σ'=> ∃S',S'.On σ'∧Q e S'
theorem WS.of {c:aY} {S:SS} {Q:aR→SS→Prop} (h:kW E c S Q):WS E c S Q:=fun _ ho=>cF h ho
theorem Db: ∀ {n:Nat} {c:aY} {σ:St} {Q:aR→St→Prop},nV E (Nj n c) σ (andThen Q fun σ'=>nV E (Da n c) σ' Q)→nV E c σ Q
 | 0,c,σ,Q,h=>by
   simp only[Nj] at h
   rw[zK] at h
   exact h
 | n+1,c,σ,Q,h=>by
   have other:Nj (n+1) c=c→Da (n+1) c= .skip→nV E c σ Q:=fun e1 e2=>by
    rw[e1,e2] at h
    refine fM h ?_
    intro e σ' hq
    cases e with
    | normal=>simp only[andThen] at hq;rw[zK] at hq;exact hq
    | exit id=>exact hq
    | ret=>exact hq
   cases c
   case seq a b=>
    simp only[Nj,Da] at h
    rw[LP] at h ⊢
    refine fM h ?_
    intro e σ' hq
    cases e with
    | normal=>exact Db (n:=n) hq
    | exit id=>exact hq
    | ret=>exact hq
   all_goals exact other rfl rfl
theorem WS.cut {α:Type} (n:Nat) (Sh:α→SS) (P:α→Prop) {Q:aR→SS→Prop} {c:aY} {S:SS} (h1:kW E (Nj n c) S (aaN Q Sh P)) (h2: ∀x,P x→WS E (Da n c) (Sh x) Q):WS E c S Q:=fun σ ho=>by
 refine Db (n:=n) (fM (cF h1 ho) ?_)
 rintro e σ' ⟨S',h3,h4⟩
 cases e with
 | normal=>
   obtain⟨x,h5,h6⟩:=h4
   exact h2 x h5 σ' (h6.on h3)
 | exit id=>exact⟨S',h3,h4⟩
 | ret=>exact⟨S',h3,h4⟩
theorem Ev.Qt {f:Nat} {af:aQ} {args:List V} {R:eZ→Prop} (hf:E.fn f=some af) (hx:E.ext f args=none) (hl:args.length=af.nparams)
  (h:WS E af.body (tJ args) (yW af.results args R)) (ht:af.tag=none:=by rfl) (hh:E.hyb f=none:=by rfl): ∃res,Ev E f args res∧R res:=by
 obtain⟨n,e,σ',h1,S',h2,h3⟩:=h (enter args) (wT args)
 have key: ∀ {e},exec E n af.body (enter args)=some (e,σ')→(e= .normal∨e= .ret)→qd af.results args S' R→ ∃res,Ev E f args res∧R res:=by
  intro e h1 he Ni
  obtain⟨res,h4,h5⟩:=oW h2 Ni
  refine⟨res,⟨n,?_⟩,h5⟩
  unfold call dt
  rw[hh];simp only[eM]
  rw[hx];simp only[hf,hl,if_true,ht,h1]
  rcases he with rfl| rfl<;>exact h4
 cases e with
 | normal=>exact key h1 (.inl rfl) h3
 | ret=>exact key h1 (.inr rfl) h3
 | exit id=>exact h3.elim
theorem Ev.EM {f:Nat} {af:aQ} {args:List V} {res:eZ} (hf:E.fn f=some af) (hx:E.ext f args=none) (hl:args.length=af.nparams)
  (h:WS E af.body (tJ args) (yW af.results args (· =res))) (ht:af.tag=none:=by rfl) (hh:E.hyb f=none:=by rfl):Ev E f args res:=by
 obtain⟨r,h1,rfl⟩:=Ev.Qt hf hx hl h ht hh
 exact h1
theorem aL.ws {α:Type} {b:aY} {Q:aR→SS→Prop} {S:SS} (Sh:α→SS) (P:α→Prop) (μ:α→Nat) (a0:α) (hs: (Sh a0).Sub S) (h0:P a0)
   (step: ∀a,P a→WS E b (Sh a) (Qn Q Sh P μ a)):aL E b S Q:=by
 refine⟨fun σ ho=> ?_⟩
 refine xU (fun k σ=> ∃a,k=μ a∧P a∧(Sh a).On σ) ?_ (μ a0) σ ⟨a0,rfl,h0,hs.on ho⟩
 rintro k σ ⟨a,rfl,hp,hS⟩
 refine fM (step a hp σ hS) ?_
 rintro e σ' ⟨S',h1,h2⟩
 cases e with
 | normal=>
   obtain⟨a',h3,h4,h5⟩:=h2
   exact⟨_,h3,a',rfl,h4,h5.on h1⟩
 | exit id=>exact⟨S',h1,h2⟩
 | ret=>exact⟨S',h1,h2⟩
end
end Go.AM
