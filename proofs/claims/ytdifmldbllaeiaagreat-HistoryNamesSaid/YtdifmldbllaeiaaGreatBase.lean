/- Texts of the proof. -/
import Derived.Test.YtdifmldbllaeiaaGreatDefs
import Derived.Attr
set_option linter.unusedSimpArgs false
set_option linter.unusedVariables false
namespace Go.AM
def UW (C C':bB):Prop:= ∀f aL r,C f aL=some r->C' f aL=some r
theorem Act.kW {C C':bB} (h:UW C C'): ∀ (a:Act) (σ:St) (r:V×St),a.run C σ=some r->a.run C' σ=some r
 | .done v,σ,r,e=>by simpa [Act.run] using e
 | .fail,σ,r,e=>by simp[Act.run] at e
 | .pc t k,σ,r,e=>by simp only[Act.run] at e ⊢;exact Act.kW h _ _ _ e
 | .bV t k,σ,r,e=>by simp only[Act.run] at e ⊢;exact Act.kW h _ _ _ e
 | .bS t o k,σ,r,e=>by simp only[Act.run] at e ⊢;exact Act.kW h _ _ _ e
 | .call f aL k,σ,r,e=>by
   simp only[Act.run] at e ⊢;split at e
   .rename_i res b;rw[h f aL res b];exact Act.kW h _ _ _ e
   simp at e
theorem Act.kn {C C':bB} (h:UW C C'): ∀ (a:Act) (σ:St) (r:V×St),a.run C σ=some r->a.dc C' σ=a.dc C σ
 | .done v,σ,r,e=>by simp[Act.dc]
 | .fail,σ,r,e=>by simp[Act.run] at e
 | .pc t k,σ,r,e=>by simp only[Act.run] at e;simp only[Act.dc];rw[Act.kn h _ _ _ e]
 | .bV t k,σ,r,e=>by simp only[Act.run] at e;simp only[Act.dc];rw[Act.kn h _ _ _ e]
 | .bS t o k,σ,r,e=>by simp only[Act.run] at e;simp only[Act.dc];rw[Act.kn h _ _ _ e]
 | .call f aL k,σ,r,e=>by
   simp only[Act.run] at e;simp only[Act.dc];split at e
   .rename_i res b;rw[h f aL res b];simp only;exact Act.kn h _ _ _ e
   simp at e
theorem AI {E:Env} {C C':bB} (h:UW C C') {o:bN} {σ σ':St} (e:ew E C o σ=some σ'):ew E C' o σ=some σ':=by
 unfold ew at e ⊢;split at e
 .rename_i v σ1 hr;rw[Act.kW h _ _ _ hr];exact e
 simp at e
theorem qY {E:Env} {C C':bB} (h:UW C C'): ∀ {os:List bN} {σ σ':St},js E C os σ=some σ'->js E C' os σ=some σ'
 | [],_,_,e=>by simpa [js] using e
 | o::os,_,_,e=>by
   simp only[js] at e ⊢;split at e
   .rename_i σ1 h1;rw[AI h h1];exact qY h e
   simp at e
theorem CX {E:Env} {C C':bB} (h:UW C C') {o:bN} {σ σ':St} (e:ew E C o σ=some σ'):di E C' o σ=di E C o σ:=by
 unfold ew at e;split at e
 .rename_i v σ1 hr;simp only[di,Act.kn h _ _ _ hr]
 simp at e
theorem oK {E:Env} {C C':bB} (h:UW C C'): ∀ {os:List bN} {a:List dU} {before:List (List Nat)} {σ σ':St},eX E C os a before σ=some σ'->eX E C' os a before σ=some σ'
 | [],_,_,_,_,e=>by simpa [eX] using e
 | o::os,a,before,σ,_,e=>by
   simp only[eX] at e ⊢;split at e
   .rename_i hc;split at e
    .rename_i σ1 h1;rw[CX h h1,AI h h1,if_pos hc];exact oK h e
    simp at e
   simp at e
def XLe (r r':a8->St->Option (aW×St)):Prop:= ∀c σ x,r c σ=some x->r' c σ=some x
theorem yT {E:Env} {r r':a8->St->Option (aW×St)} (h:XLe r r'):UW (fh E r) (fh E r'):=by
 intro f aL res e;unfold fh at e ⊢;split at e
 .exact e
 split at e
 .split at e
  .rename_i hl;rw[if_pos hl];split at e
   .split at e
    .rename_i σ hx;rw[h _ _ _ hx];exact e
    .rename_i σ hx;rw[h _ _ _ hx];exact e
    simp at e
   split at e
   .rename_i hp;rw[if_pos hp];split at e
    .rename_i σ hx;rw[h _ _ _ hx];exact e
    .rename_i σ hx;rw[h _ _ _ hx];exact e
    simp at e
   simp at e
  simp at e
 simp at e
theorem tU {E:Env} {r r':a8->St->Option (aW×St)} (h:XLe r r'):UW (dM E r) (dM E r'):=by
 intro f aL res e;unfold dM at e ⊢;split at e
 .rename_i g hg;exact E.mono f g hg _ _ (yT h) _ _ e
 exact yT h _ _ _ e
theorem CY {E:Env} {C C':bB} (d:UW C C') {r r':a8->St->Option (aW×St)} (h:XLe r r'):XLe (aK E C r) (aK E C' r'):=by
 intro c σ x e;cases c with
 | skip=>simpa [aK] using e
 | region ops=>
   simp only[aK,ajr] at e ⊢;obtain⟨σ1,h1,h2⟩:=e;exact⟨σ1,qY d h1,h2⟩
 | drawn ops=>
   simp only[aK,ajr] at e ⊢;obtain⟨σ1,h1,h2⟩:=e;exact⟨σ1,oK d h1,h2⟩
 | seq a b=>
   simp only[aK] at e ⊢;split at e
   .rename_i σ1 h1;rw[h _ _ _ h1];exact h _ _ _ e
   rename_i hn;rw[h _ _ _ e];rcases x with⟨ex,σ1⟩;cases ex with
   | normal=>exact absurd e (by simpa using hn σ1)
   | _=>rfl
 | cond c a b=>
   simp only[aK] at e ⊢;split at e
   .exact h _ _ _ e
   .exact h _ _ _ e
   simp at e
 | block id b=>
   simp only[aK] at e ⊢;split at e
   .rename_i f σ1 h1;rw[h _ _ _ h1];exact e
   rename_i hn;rw[h _ _ _ e];rcases x with⟨ex,σ1⟩;cases ex with
   | exit f=>exact absurd e (by simpa using hn f σ1)
   | _=>rfl
 | loop b=>
   simp only[aK] at e ⊢;split at e
   .rename_i σ1 h1;rw[h _ _ _ h1];exact h _ _ _ e
   rename_i hn;rw[h _ _ _ e];rcases x with⟨ex,σ1⟩;cases ex with
   | normal=>exact absurd e (by simpa using hn σ1)
   | _=>rfl
 | exit id=>simpa [aK] using e
 | ret=>simpa [aK] using e
 | scope b=>simp only[aK] at e ⊢;exact h _ _ _ e
 | bad=>simp[aK] at e
 | pY fx ps a b=>
   simp only[aK] at e ⊢;split at e
   .rename_i g caps hg
    try simp only[hg]
    split at e
    .rename_i xs Mf
     try simp only[Mf]
     split at e
     .rename_i hc
      try rw[if_pos hc]
      exact xK h e
     simp at e
    simp at e
   simp at e
 | keys it nx ne id kT kO hd b l=>
   simp only[aK] at e ⊢;split at e
   .rename_i k g i
    try simp only[i]
    split at e
    .rename_i es j
     try simp only[j]
     split at e
     .rename_i hc
      try rw[if_pos hc]
      split at e
      .rename_i σ1 σs hr;rw[pZ (fun p y hy=>sQ h hy) hr];exact e
      simp at e
     simp at e
    simp at e
   simp at e
theorem DC {E:Env}: ∀n,XLe (exec E n) (exec E (n+1))
 | 0=>by intro c σ x e;simp[exec] at e
 | n+1=>by have a:=DC (E:=E) n;have:=CY (E:=E) (tU (E:=E) a) a;intro c σ x e;simp only[exec] at e ⊢;exact this _ _ _ e
theorem cN {E:Env} {n m:Nat} (h:n<=m):XLe (exec E n) (exec E m):=by
 induction h with
 | refl=>exact fun _ _ _ e=>e
 | step _ a=>exact fun c σ x e=>DC _ _ _ _ (a c σ x e)
theorem dI {E:Env} {n m:Nat} (h:n<=m):UW (call E n) (call E m):=tU (cN h)
def Ev (E:Env) (f:Nat) (args:List V) (res:fu):Prop:= ∃n,call E n f args=some res
def St.bS (σ:St) (r:Nat) (o:Obj):St:={σ with O:=dh σ.O r o}
inductive Tg {α β:Type} (a:α) (b:β):Type
 | mk
def JU (E:Env) (a:Act) (σ:St) (Q:V->St->Prop) (_:Tg σ Q:= .mk):Prop:= ∃n v σ',a.run (call E n) σ=some (v,σ')/\Q v σ'
def XM (E:Env) (os:List bN) (σ:St) (Q:St->Prop) (_:Tg os (σ,Q):= .mk):Prop:= ∃n σ',js E (call E n) os σ=some σ'/\Q σ'
def o8 (E:Env) (c:a8) (σ:St) (Q:aW->St->Prop) (_:Tg c (σ,Q):= .mk):Prop:= ∃n e σ',exec E n c σ=some (e,σ')/\Q e σ'
def Ab (E:Env) (a:Act) (σ:St) (Q:V->St->List Loc->List Loc->Prop) (_:Tg σ Q:= .mk):Prop:= ∃n v σ',a.run (call E n) σ=some (v,σ')/\Q v σ' (a.dc (call E n) σ).reads (a.dc (call E n) σ).writes
def XN (E:Env) (a:List dU) (before:List (List Nat)) (os:List bN) (σ:St) (Q:St->Prop):Prop:= ∃n σ',eX E (call E n) os a before σ=some σ'/\Q σ'
section
variable {E:Env} {σ:St}
theorem Qn {v:V} {Q:V->St->Prop}:JU E (.done v) σ Q=Q v σ:=by
 simp only[JU,Act.run,eq_iff_iff];constructor
 .rintro⟨_,_,_,h,q⟩;injection h with h;injection h with h1 h2;subst h1 h2;exact q
 exact fun q=> ⟨0,_,_,rfl,q⟩
theorem AJ {t:Nat} {k:Obj->Act} {Q:V->St->Prop}:JU E (.bV t k) σ Q=JU E (k (σ.O t)) σ Q:=by simp[JU,Act.run]
theorem Hb {t:Nat} {o:Obj} {k:Act} {Q:V->St->Prop}:JU E (.bS t o k) σ Q=JU E k (σ.bS t o) Q:=by simp[JU,Act.run,St.bS]
theorem Vj {Q:St->Prop}:XM E [] σ Q=Q σ:=by simp[XM,js]
theorem Qo {o:bN} {os:List bN} {Q:St->Prop}:XM E (o::os) σ Q=JU E (cX E o) σ fun v σ'=>XM E os (σ'.put o.dst v) Q:=by
 simp only[XM,JU,js,ew,eq_iff_iff];constructor
 .rintro⟨n,σ2,h,q⟩;split at h
  .rename_i σ1 h1;split at h1
   .rename_i v σ0 h0;injection h1 with h1;subst h1;exact⟨n,v,σ0,h0,n,σ2,h,q⟩
   simp at h1
  simp at h
 rintro⟨n,v,σ0,h0,m,σ2,h,q⟩;refine⟨max n m,σ2,?_,q⟩;rw[Act.kW (dI (aj3 n m)) _ _ _ h0];exact qY (dI (ajU n m)) h
theorem Qp {v:V} {Q:V->St->List Loc->List Loc->Prop}:Ab E (.done v) σ Q=Q v σ [] []:=by
 simp only[Ab,Act.run,Act.dc,eq_iff_iff];constructor
 .rintro⟨_,_,_,h,q⟩;injection h with h;injection h with h1 h2;subst h1 h2;exact q
 exact fun q=> ⟨0,_,_,rfl,q⟩
theorem Qq {t:Nat} {k:V->Act} {Q:V->St->List Loc->List Loc->Prop}:Ab E (.pc t k) σ Q=Ab E (k (σ.T t)) σ fun v σ' r w=>Q v σ' (.t t::r) w:=by simp[Ab,Act.run,Act.dc]
theorem Hc {t:Nat} {k:Obj->Act} {Q:V->St->List Loc->List Loc->Prop}:Ab E (.bV t k) σ Q=Ab E (k (σ.O t)) σ fun v σ' r w=>Q v σ' (.o t::r) w:=by simp[Ab,Act.run,Act.dc]
theorem Qr {t:Nat} {o:Obj} {k:Act} {Q:V->St->List Loc->List Loc->Prop}:Ab E (.bS t o k) σ Q=Ab E k (σ.bS t o) fun v σ' r w=>Q v σ' r (.o t::w):=by simp[Ab,Act.run,Act.dc,St.bS]
theorem Qs {f:Nat} {aL:List V} {k:fu->Act} {Q:V->St->List Loc->List Loc->Prop}:Ab E (.call f aL k) σ Q= ∃res,Ev E f aL res/\Ab E (k res) σ Q:=by
 simp only[Ab,eq_iff_iff];constructor
 .rintro⟨n,v,σ',h,q⟩;simp only[Act.run,Act.dc] at h q;split at h
  .rename_i res hr;simp only[hr] at q;exact⟨res,⟨n,hr⟩,n,v,σ',h,q⟩
  simp at h
 rintro⟨res,⟨n,hn⟩,m,v,σ',h,q⟩;have a:=dI (E:=E) (aj3 n m) _ _ _ hn;have b:=Act.kW (dI (E:=E) (ajU n m)) _ _ _ h;have c:=Act.kn (dI (E:=E) (ajU n m)) _ _ _ h;refine⟨max n m,v,σ',?_,?_⟩
 .simp only[Act.run,a];exact b
 simp only[Act.dc,a,c];exact q
theorem Vk {a:List dU} {before:List (List Nat)} {Q:St->Prop}:XN E a before [] σ Q=Q σ:=by simp[XN,eX]
theorem Qt {a:List dU} {before:List (List Nat)} {o:bN} {os:List bN} {Q:St->Prop}:
  XN E a before (o::os) σ Q=Ab E (cX E o) σ fun v σ' r w=>
   (fits a (closure before o.pre) (fA o.op ⟨r,(match o.dst with| some d=> [.t d] | none=> [])++w⟩) a.length &&o.pre.all (· <a.length))=true/\
   XN E (a++[fA o.op ⟨r,(match o.dst with| some d=> [.t d] | none=> [])++w⟩]) (before++[closure before o.pre]) os (σ'.put o.dst v) Q:=by
 have key: ∀n,eX E (call E n) (o::os) a before σ=if (fits a (closure before o.pre) (di E (call E n) o σ) a.length &&o.pre.all (· <a.length))=true then
   (match ew E (call E n) o σ with| some σ'=>eX E (call E n) os (a++[di E (call E n) o σ]) (before++[closure before o.pre]) σ'| none=>none) else none:=fun n=>rfl
 have Vl: ∀n v σ0,(cX E o).run (call E n) σ=some (v,σ0)->ew E (call E n) o σ=some (σ0.put o.dst v):=fun n v σ0 h=>by simp only[ew,h]
 simp only[XN,Ab,eq_iff_iff];constructor
 .rintro⟨n,σ2,h,q⟩;rw[key n] at h;by_cases hc: (fits a (closure before o.pre) (di E (call E n) o σ) a.length &&o.pre.all (· <a.length))=true
  .rw[if_pos hc] at h;cases h0: (cX E o).run (call E n) σ with
   | none=>simp[ew,h0] at h
   | some p=>
     obtain⟨v,σ0⟩:=p;rw[Vl n v σ0 h0] at h;exact⟨n,v,σ0,h0,hc,n,σ2,h,q⟩
  rw[if_neg hc] at h;simp at h
 rintro⟨n,v,σ0,h0,hc,m,σ2,h,q⟩;refine⟨max n m,σ2,?_,q⟩;have b:di E (call E (max n m)) o σ=di E (call E n) o σ:=by simp only[di,Act.kn (dI (E:=E) (aj3 n m)) _ _ _ h0]
 have E8: (fits a (closure before o.pre) (di E (call E n) o σ) a.length &&o.pre.all (· <a.length))=true:=hc;rw[key,b,if_pos E8,Vl _ v σ0 (Act.kW (dI (aj3 n m)) _ _ _ h0)];exact oK (dI (ajU n m)) h
def andThen (Q:aW->St->Prop) (k:St->Prop) (_:Tg Q k:= .mk):aW->St->Prop
 | .normal,σ=>k σ
 | .exit id,σ=>Q (.exit id) σ
 | .ret,σ=>Q .ret σ
def Mg (id:Nat) (Q:aW->St->Prop) (_:Tg id Q:= .mk):aW->St->Prop
 | .exit a,σ=>if a=id then Q .normal σ else Q (.exit a) σ
 | .normal,σ=>Q .normal σ
 | .ret,σ=>Q .ret σ
theorem gH {c:a8} {Q Q':aW->St->Prop} (h:o8 E c σ Q) (k: ∀e σ',Q e σ'->Q' e σ'):o8 E c σ Q':=by obtain⟨n,e,σ',h1,h2⟩:=h;exact⟨n,e,σ',h1,k _ _ h2⟩
theorem AK {Q:aW->St->Prop}:o8 E .skip σ Q=Q .normal σ:=by
 simp only[o8,eq_iff_iff];constructor
 .rintro⟨n,e,σ',h,q⟩;cases n<;>simp[exec,aK] at h
  obtain⟨rfl,rfl⟩:=h;exact q
 exact fun q=> ⟨1,_,_,by simp[exec,aK],q⟩
theorem Qu {id:Nat} {Q:aW->St->Prop}:o8 E (.exit id) σ Q=Q (.exit id) σ:=by
 simp only[o8,eq_iff_iff];constructor
 .rintro⟨n,e,σ',h,q⟩;cases n<;>simp[exec,aK] at h
  obtain⟨rfl,rfl⟩:=h;exact q
 exact fun q=> ⟨1,_,_,by simp[exec,aK],q⟩
theorem Vm {Q:aW->St->Prop}:o8 E .ret σ Q=Q .ret σ:=by
 simp only[o8,eq_iff_iff];constructor
 .rintro⟨n,e,σ',h,q⟩;cases n<;>simp[exec,aK] at h
  obtain⟨rfl,rfl⟩:=h;exact q
 exact fun q=> ⟨1,_,_,by simp[exec,aK],q⟩
theorem NF {b:a8} {Q:aW->St->Prop}:o8 E (.scope b) σ Q=o8 E b σ Q:=by
 simp only[o8,eq_iff_iff];constructor
 .rintro⟨n,e,σ',h,q⟩;cases n with
  | zero=>simp[exec] at h
  | succ n=>simp only[exec,aK] at h;exact⟨n,e,σ',h,q⟩
 rintro⟨n,e,σ',h,q⟩;exact⟨n+1,e,σ',by simpa only[exec,aK] using h,q⟩
theorem JV {ops:List bN} {Q:aW->St->Prop}:o8 E (.region ops) σ Q=XM E ops σ (Q .normal):=by
 simp only[o8,XM,eq_iff_iff];constructor
 .rintro⟨n,e,σ',h,q⟩;cases n with
  | zero=>simp[exec] at h
  | succ n=>
    simp only[exec,aK,ajr] at h;obtain⟨σ1,h1,h2⟩:=h;injection h2 with h2 h3;subst h2 h3;exact⟨n,_,h1,q⟩
 rintro⟨n,σ',h,q⟩;exact⟨n+1,_,σ',by simp only[exec,aK,ajr];exact⟨σ',h,rfl⟩,q⟩
theorem NG {ops:List bN} {Q:aW->St->Prop}:o8 E (.drawn ops) σ Q=XN E [] [] ops σ (Q .normal):=by
 simp only[o8,XN,eq_iff_iff];constructor
 .rintro⟨n,e,σ',h,q⟩;cases n with
  | zero=>simp[exec] at h
  | succ n=>
    simp only[exec,aK,ajr] at h;obtain⟨σ1,h1,h2⟩:=h;injection h2 with h2 h3;subst h2 h3;exact⟨n,_,h1,q⟩
 rintro⟨n,σ',h,q⟩;exact⟨n+1,_,σ',by simp only[exec,aK,ajr];exact⟨σ',h,rfl⟩,q⟩
theorem E9 {a b:a8} {Q:aW->St->Prop}:o8 E (.seq a b) σ Q=o8 E a σ (andThen Q fun σ'=>o8 E b σ' Q):=by
 simp only[o8,eq_iff_iff];constructor
 .rintro⟨n,e,σ',h,q⟩;cases n with
  | zero=>simp[exec] at h
  | succ n=>
    simp only[exec,aK] at h;split at h
    .rename_i σ1 h1;exact⟨n,_,_,h1,n,e,σ',h,q⟩
    rename_i hn;refine⟨n,e,σ',h,?_⟩;cases e with
    | normal=>exact absurd h (by simpa using hn σ')
    | exit id=>exact q
    | ret=>exact q
 rintro⟨n,e,σ1,h,q⟩;cases e with
 | normal=>
   obtain⟨m,e,σ',c,q⟩:=q;refine⟨max n m+1,e,σ',?_,q⟩;simp only[exec,aK,cN (aj3 n m) _ _ _ h];exact cN (ajU n m) _ _ _ c
 | exit id=>exact⟨n+1,_,_,by simp only[exec,aK,h],q⟩
 | ret=>exact⟨n+1,_,_,by simp only[exec,aK,h],q⟩
theorem Qv {c:ba} {a b:a8} {Q:aW->St->Prop}:o8 E (.cond c a b) σ Q=match bE σ c with| .bool true=>o8 E a σ Q| .bool false=>o8 E b σ Q| _=>False:=by
 simp only[o8,eq_iff_iff];constructor
 .rintro⟨n,e,σ',h,q⟩;cases n with
  | zero=>simp[exec] at h
  | succ n=>
    simp only[exec,aK] at h;split at h
    .rename_i he;simp only[he];exact⟨n,e,σ',h,q⟩
    .rename_i he;simp only[he];exact⟨n,e,σ',h,q⟩
    simp at h
 intro h;split at h
 . rename_i he
   obtain⟨n,e,σ',h,q⟩:=h;exact⟨n+1,e,σ',by simp only[exec,aK,he];exact h,q⟩
 . rename_i he
   obtain⟨n,e,σ',h,q⟩:=h;exact⟨n+1,e,σ',by simp only[exec,aK,he];exact h,q⟩
 exact h.elim
theorem DD {id:Nat} {b:a8} {Q:aW->St->Prop}:o8 E (.block id b) σ Q=o8 E b σ (Mg id Q):=by
 simp only[o8,eq_iff_iff];constructor
 .rintro⟨n,e,σ',h,q⟩;cases n with
  | zero=>simp[exec] at h
  | succ n=>
    simp only[exec,aK] at h;split at h
    .rename_i a σ1 h1;refine⟨n,_,_,h1,?_⟩;simp only[Mg];split at h
     .rename_i hi;simp only[ajq,ajv] at h;obtain⟨rfl,rfl⟩:=h;simp only[hi,if_true];exact q
     rename_i hi;simp only[ajq,ajv] at h;obtain⟨rfl,rfl⟩:=h;simp only[hi,if_false];exact q
    rename_i hn;refine⟨n,e,σ',h,?_⟩;cases e with
    | exit a=>exact absurd h (by simpa using hn a σ')
    | normal=>exact q
    | ret=>exact q
 rintro⟨n,e,σ1,h,q⟩;cases e with
 | exit a=>
   simp only[Mg] at q;by_cases hi:a=id
   .simp only[hi,if_true] at q;exact⟨n+1,_,_,by simp only[exec,aK,h,hi,if_true],q⟩
   simp only[hi,if_false] at q;exact⟨n+1,_,_,by simp only[exec,aK,h,hi,if_false],q⟩
 | normal=>exact⟨n+1,_,_,by simp only[exec,aK,h],q⟩
 | ret=>exact⟨n+1,_,_,by simp only[exec,aK,h],q⟩
theorem Qw {b:a8} {Q:aW->St->Prop}:o8 E (.loop b) σ Q=o8 E b σ (andThen Q fun σ'=>o8 E (.loop b) σ' Q):=by
 simp only[o8,eq_iff_iff];constructor
 .rintro⟨n,e,σ',h,q⟩;cases n with
  | zero=>simp[exec] at h
  | succ n=>
    simp only[exec,aK] at h;split at h
    .rename_i σ1 h1;exact⟨n,_,_,h1,n,e,σ',h,q⟩
    rename_i hn;refine⟨n,e,σ',h,?_⟩;cases e with
    | normal=>exact absurd h (by simpa using hn σ')
    | exit id=>exact q
    | ret=>exact q
 rintro⟨n,e,σ1,h,q⟩;cases e with
 | normal=>
   obtain⟨m,e,σ',a,q⟩:=q;refine⟨max n m+1,e,σ',?_,q⟩;simp only[exec,aK,cN (aj3 n m) _ _ _ h];exact cN (ajU n m) _ _ _ a
 | exit id=>exact⟨n+1,_,_,by simp only[exec,aK,h],q⟩
 | ret=>exact⟨n+1,_,_,by simp only[exec,aK,h],q⟩
theorem yU {b:a8} {Q:aW->St->Prop} (I:Nat->St->Prop) (a: ∀k σ,I k σ->o8 E b σ (andThen Q fun σ'=> ∃j,j<k/\I j σ')):
   ∀ (k:Nat) (σ:St),I k σ->o8 E (.loop b) σ Q:=by
 intro k;induction k using Nat.strongRecOn with
 | _ k c=>
   intro σ h;rw[Qw];refine gH (a k σ h) fun e σ' he=> ?_;cases e with
   | normal=>obtain⟨j,d,f⟩:=he;exact c j d σ' f
   | exit id=>exact he
   | ret=>exact he
def fin (rs:List vF) (args:List V) (res:fu):aW->St->Prop
 | .exit _,_=>False
 | .normal,σ=>leave ⟨0,0,[],rs,.skip,none⟩ args σ=some res
 | .ret,σ=>leave ⟨0,0,[],rs,.skip,none⟩ args σ=some res
theorem Ev.ext {f:Nat} {args:List V} {res:fu} (h:E.ext f args=some res) (hh:E.hyb f=none:=by rfl):Ev E f args res:=⟨0,by simp[call,dM,fh,h,hh]⟩
end
section
variable {E:Env} {σ:St}
def p8 (E:Env):List bN->St->(List dU->St->Prop)->Prop
 | [],σ,Q=>Q [] σ
 | o::os,σ,Q=>Ab E (cX E o) σ fun v σ' r w=>p8 E os (σ'.put o.dst v) fun fs σ''=>Q (fA o.op ⟨r,(match o.dst with| some d=> [.t d] | none=> [])++w⟩::fs) σ''
def wpx (E:Env) (os:List bN) (σ:St) (Q:List dU->St->Prop) (_:Tg os (σ,Q):= .mk):Prop:=p8 E os σ Q
def JW (d:Option Nat) (w:List Loc):List Loc:=match d with| some d=> .t d::w| none=>w
theorem Vn {Q:List dU->St->Prop}:wpx E [] σ Q=Q [] σ:=rfl
theorem Qx {o:bN} {os:List bN} {Q:List dU->St->Prop}:wpx E (o::os) σ Q=Ab E (cX E o) σ fun v σ' r w=>wpx E os (σ'.put o.dst v) fun fs σ''=>Q (fA o.op ⟨r,JW o.dst w⟩::fs) σ'':=by
 have: ∀w,(match o.dst with| some d=> [Loc.t d] | none=> [])++w=JW o.dst w:=by intro w;cases o.dst<;>rfl
 have h2: (fun (v:V) (σ':St) (r w:List Loc)=>p8 E os (σ'.put o.dst v) fun fs σ''=>Q (fA o.op ⟨r,(match o.dst with| some d=> [.t d] | none=> [])++w⟩::fs) σ'')=(fun v σ' r w=>p8 E os (σ'.put o.dst v) fun fs σ''=>Q (fA o.op ⟨r,JW o.dst w⟩::fs) σ''):=by funext v σ' r w;rw[this]
 show Ab E (cX E o) σ (fun (v:V) (σ':St) (r w:List Loc)=>p8 E os (σ'.put o.dst v) fun fs σ''=>Q (fA o.op ⟨r,(match o.dst with| some d=> [.t d] | none=> [])++w⟩::fs) σ'')=_;rw[h2];rfl
def UX:List (List Nat)->List (List Nat)->List dU->List dU->Bool
 | [],_,_,_=>true
 | p::ps,before,a,f::rest=> (fits a (closure before p) f a.length &&p.all (· <a.length)) &&UX ps (before++[closure before p]) (a++[f]) rest
 | _::_,_,_,[]=>false
theorem pd {a:Act} {Q Q':V->St->List Loc->List Loc->Prop} (h:Ab E a σ Q) (k: ∀v σ' r w,Q v σ' r w->Q' v σ' r w):Ab E a σ Q':=by obtain⟨n,v,σ',h1,h2⟩:=h;exact⟨n,v,σ',h1,k _ _ _ _ h2⟩
theorem jL: ∀ {os:List bN} {σ:St} {Q Q':List dU->St->Prop},p8 E os σ Q->(∀fs σ',Q fs σ'->Q' fs σ')->p8 E os σ Q'
 | [],_,_,_,h,k=>k _ _ h
 | o::os,_,_,_,h,k=>by simp only[p8] at h ⊢;exact pd h fun v σ' r w b=>jL b fun fs σ'' a=>k _ _ a
theorem Qy {Q:St->Prop}: ∀ {os:List bN} {σ:St} {a:List dU} {before:List (List Nat)},
   p8 E os σ (fun fs σ'=>UX (os.map (·.pre)) before a fs=true/\Q σ')->XN E a before os σ Q
 | [],_,_,_,h=>by rw[Vk];exact h.2
 | o::os,σ,a,before,h=>by
   rw[Qt];simp only[p8,List.map_cons,UX,ajt] at h;refine pd h fun v σ' r w b=> ?_;have h1:p8 E os (σ'.put o.dst v) (fun fs σ''=> (fits a (closure before o.pre) (fA o.op ⟨r,(match o.dst with| some d=> [.t d] | none=> [])++w⟩) a.length &&o.pre.all (· <a.length))=true):=
    jL b fun fs σ'' hh=>by have:=hh.1;simp only[List.map_cons,UX,ajt] at this;simp only[ajt];exact this.1
   have const: ∀ {os:List bN} {σ:St} {p:Prop},p8 E os σ (fun _ _=>p)->p:=by
    intro os;induction os with
    | nil=>intro σ p h;exact h
    | cons o os c=>
      intro σ p h;simp only[p8] at h;obtain⟨n,v,σ',_,h2⟩:=h;exact c h2
   refine⟨const h1,Qy (jL b fun fs σ'' hh=> ⟨by have:=hh.1;simp only[List.map_cons,UX,ajt] at this;exact this.2,hh.2⟩)⟩
theorem vG {ops:List bN} {Q:aW->St->Prop} (h:wpx E ops σ (fun fs σ'=>UX (ops.map (·.pre)) [] [] fs=true/\Q .normal σ')):o8 E (.drawn ops) σ Q:=by rw[NG];exact Qy h
theorem Hd {t:Nat}:bE σ (.tmp t)=σ.T t:=rfl
theorem CZ {v:V}:bE σ (.const v)=v:=rfl
theorem kM: ∀ {cs:List V},V.al cs=true-> ∀ {x:V},x ∈ cs->x.az=true
 | [],_,x,h=>by simp at h
 | c::cs,h,x,hx=>by
   simp only[V.al,ajt] at h;rcases ajy.1 hx with rfl| hx
   .exact h.1
   exact kM h.2 hx
theorem uK: ∀ {cs:List V},(∀x ∈ cs,V.az x=true)->V.al cs=true
 | [],_=>rfl
 | c::cs,h=>by simp only[V.al,ajt];exact⟨h c ajl,uK fun x hx=>h x (by simp[hx])⟩
theorem eF {args:List V} (h:V.al args=true):enter args=⟨fun t=>args.getD t ee,fun _=>bJ⟩:=by
 have key: ∀ (t:Nat) (a:V),args[t]? =some a->a.az=true:=fun t a ht=>kM h (List.mem_of_getElem? ht);unfold enter;congr 1
 .funext t;cases ha:args[t]? with
  | none=>simp[List.getD,ha]
  | some a=>have:=key t a ha;simp only[List.getD,ha,alC];cases a<;>simp_all[V.az]
 funext t;cases ha:args[t]? with
 | none=>rfl
 | some a=>have:=key t a ha;cases a<;>simp_all[V.az]
end
def dX (sz lim:Nat):List V->Option fu
 | [.nils]=>some ⟨.own sz [],[]⟩
 | [.lit sz' xs]=>if sz'=sz/\xs.length<=lim then some ⟨.own sz xs,[]⟩ else none
 | _=>none
def DE:List V->Option fu
 | [.float b]=>match FloatKind.f64.format.sqrt b with
   | some r=>some ⟨.float r,[]⟩
   | none=>none
 | _=>none
theorem kY {O:Nat->Obj}: ∀ {args:List V} {i:Nat},V.al args=true->cV O i args=some []
 | [],_,_=>rfl
 | a::aL,i,h=>by simp only[V.al,ajt] at h;have:=kY (O:=O) (i:=i+1) h.2;cases a<;>simp_all[cV,V.az]
def Vo (sz:Nat) (xs:List V) (v:V):Prop:=v= .lit sz xs\/v= .nils/\xs=[]
theorem Vo.len {sz:Nat} {xs:List V} {v:V} (h:Vo sz xs v):Vp v=some (.int .i64 xs.length):=by rcases h with rfl| ⟨rfl,rfl⟩ <;>rfl
theorem Vo.aZ {sz:Nat} {xs:List V} {v:V} (h:Vo sz xs v):v.aZ=true:=by rcases h with rfl| ⟨rfl,_⟩ <;>rfl
def Fa (sz:Nat) (v i:V):Act:=
 match v,i with
 | .sl r g off len,.int _ n=> .bV r fun o=>if 0<=n/\n<len/\o.sz=sz/\o.gen=g then .done (.ptr r g (off+n.toNat) 0) else .fail
 | .lit sz' xs,.int _ n=>if 0<=n/\sz'=sz then match xs[n.toNat]? with
    | some e=> .done (.eptr e 0)
    | none=> .fail
   else .fail
 | .litk sz' xs,.int _ n=>if 0<=n/\sz'=sz/\0 <sz then match xs[n.toNat]? with
    | some e=> .done (.epk n.toNat sz e 0)
    | none=> .fail
   else .fail
 | _,_=> .fail
theorem C0 {E:Env} {sz:Nat} {x i:ba}:aQ E (.indexAddr sz x i)=ev x fun v=>ev i fun i=>Fa sz v i:=rfl
def Fb ( sz:Nat) (v:V) (l h m:Option V):Act:=
 match v with
 | .sl r g off len=> .bV r fun o=>match o.es with
   | some es=>if o.gen=g/\o.sz=sz then
      match cY 0 l,cY len h,m with
      | some l,some h,none=>if l<=h/\off+h<=es.length then .done (.sl r g (off+l) (h - l)) else .fail
      | some l,some a,some m=>match h,cY 0 (some m) with
        | some _,some m=>if l<=a/\a<=m/\off+m<=es.length then .done (if m=l then .nils else .any) else .fail
        | _,_=> .fail
      | _,_,_=> .fail
     else .fail
   | none=> .fail
 | v=>fi (AL sz v l h m)
theorem NH {E:Env} {sz:Nat} {x:ba} {lo hi mx:Option ba}:aQ E (.slice sz x lo hi mx)=ev x fun v=>P0 lo fun l=>P0 hi fun h=>P0 mx fun m=>Fb sz v l h m:=rfl
def JX (r sz lim:Nat) (s:V) (ys:List V):Act:=
 if ys.all (bj · sz) &&decide (0 <sz) then match s with
  | .nils=>if ys.isEmpty then .done .nils else if ys.length<=lim then
      .bV r fun o=> .bS r {gen:=o.gen+1,sz,arr:=true,fz:=false,es:=some ys} (.done (.sl r (o.gen+1) 0 ys.length)) else .fail
  | .lit sz' xs=>if ys.isEmpty then .done (.lit sz' xs) else .fail
  | .sl r' g off len=> .bV r' fun o=>match o.es with
    | some es=>if o.gen=g/\o.arr=true/\o.fz=false/\o.sz=sz/\off+len<=es.length/\len+ys.length<=lim then
        if off+len+ys.length<=es.length then
             .bS r' {o with es:=some (overwrite es (off+len) ys)} (.done (.sl r' g off (len+ys.length)))
        else
             .bS r' {o with gen:=g+1,es:=some (aN es off len++ys)} (.done (.sl r' (g+1) 0 (len+ys.length)))
      else .fail
    | none=> .fail
  | _=> .fail
  else .fail
theorem JY {E:Env} {r sz lim:Nat} {s x:ba}:aQ E (.append r sz lim s x)=ev s fun s=>ev x fun x=>content sz x fun ys=>oM ys fun ys=>JX r sz lim s ys:=rfl
theorem iq {α:Type} (f:α->V) (l:List α) (a b:Nat):AM.aN (l.map f) a b=((l.drop a).take b).map f:=by simp[AM.aN,alx,List.map_drop]
theorem AN {xs:List V} {n:Nat} (h:n=xs.length):AM.aN xs 0 n=xs:=by subst h;simp[AM.aN]
def firstIdx {α:Type} (p:α->Bool) (xs:List α):Int:=match xs.findIdx? p with
 | some i=>i
 | none=> -1
theorem jM {α:Type} {p:α->Bool} {xs:List α} {i:Nat} {x:α} (h: ∀j y,j<i->xs[j]? =some y->p y=false) (hx:xs[i]? =some x) (hp:p x=true):firstIdx p xs=i:=by
 have:xs.findIdx? p=some i:=by rw[akE];obtain⟨hl,hv⟩:=ajp.1 hx;refine⟨hl,by rw[hv];exact hp,fun j a=> ?_⟩;have:=h j _ a (aju ajk);simp[this]
 simp[firstIdx,this]
theorem firstIdx_none {α:Type} {p:α->Bool} {xs:List α} (h: ∀ (j:Nat) (y:α),xs[j]? =some y->p y=false):firstIdx p xs= -1:=by
 have:xs.findIdx? p=none:=by rw[alA];intro x hx;obtain⟨j,a⟩:=aj0.1 hx;exact h j x a
 simp[firstIdx,this]
theorem Ac (a b:Int): (a==b)=decide (a=b):=by
 by_cases h:a=b
 .simp[h]
 simp[h]
theorem Mh (a b:Int): (a !=b)= !decide (a=b):=by simp[bne,Ac]
theorem bo {n:Int} (h0: -9223372036854775808<=n) (h1:n<=9223372036854775807):IntKind.i64.wrap n=n:=by simp[IntKind.wrap,IntKind.bits,IntKind.signed];omega
section
variable {α:Type}
def JZ (le:α->α->Bool) (x:α):List α->List α
 | []=> [x]
 | y::a=>if le x y then x::y::a else y::JZ le x a
def qI (le:α->α->Bool):List α->List α
 | []=> []
 | x::xs=>JZ le x (qI le xs)
theorem xL (le:α->α->Bool) (x:α): ∀l:List α,(JZ le x l).Perm (x::l)
 | []=> .refl _
 | y::a=>by
   unfold JZ;split
   .exact .refl _
   exact((xL le x a).cons y).trans (.swap x y a)
theorem qa (le:α->α->Bool): ∀l:List α,(qI le l).Perm l
 | []=> .refl _
 | x::xs=> (xL le x _).trans ((qa le xs).cons x)
theorem yV {le:α->α->Bool} (ht: ∀a b c,le a b=true->le b c=true->le a c=true) (hl: ∀a b,(le a b || le b a)=true) (x:α): ∀ {l:List α},l.Pairwise (le · ·)->(JZ le x l).Pairwise (le · ·)
 | [],_=>by simp[JZ]
 | y::e,h=>by
   unfold JZ;split
   .rename_i P1;rw[List.pairwise_cons] at h ⊢;exact⟨fun z d=>by
     rcases ajy.1 d with rfl| d
     .exact P1
     .exact ht _ _ _ P1 (h.1 z d),List.pairwise_cons.2 h⟩
   rename_i P1;rw[List.pairwise_cons] at h ⊢;refine⟨fun z d=> ?_,yV ht hl x h.2⟩;have d:=(xL le x e).mem_iff.1 d;rcases ajy.1 d with rfl| d
   .have:=hl z y;simp only[akD] at this;exact this.resolve_left P1
   exact h.1 z d
theorem lU {le:α->α->Bool} (ht: ∀a b c,le a b=true->le b c=true->le a c=true) (hl: ∀a b,(le a b || le b a)=true): ∀l:List α,(qI le l).Pairwise (le · ·)
 | []=>by simp[qI]
 | x::xs=>yV ht hl x (lU ht hl xs)
theorem DF {le:α->α->Bool} (ha: ∀a b,le a b=true->le b a=true->a=b): ∀ {l c:List α},l.Perm c->l.Pairwise (le · ·)->c.Pairwise (le · ·)->l=c:=by intro l c hp h d;exact hp.eq_of_pairwise (fun a b _ _ h1 h2=>ha a b h1 h2) h d
theorem zK {le:α->α->Bool} (ha: ∀a b,le a b=true->le b a=true->a=b) (ht: ∀a b c,le a b=true->le b c=true->le a c=true) (hl: ∀a b,(le a b || le b a)=true) (l:List α):l.mergeSort le=qI le l:=
 DF ha ((List.mergeSort_perm l le).trans (qa le l).symm) (List.pairwise_mergeSort ht hl l) (lU ht hl l)
end
def J0 (x y:Int):Bool:=decide (x<=y)
def eG (l:List Int):List Int:=qI J0 l
theorem He (l:List Int): (l.mergeSort fun x y=>decide (x<=y))=eG l:=
 zK (le:=J0) (fun a b h1 h2=>by simp[J0] at h1 h2;omega) (fun a b c h1 h2=>by simp[J0] at h1 h2 ⊢;omega) (fun a b=>by simp[J0];omega) l
def qZ:List V->Option (List Int)
 | []=>some []
 | .int .i64 n::vs=> (qZ vs).map (n:: ·)
 | _=>none
theorem xM: ∀ {vs:List V} {zs:List Int},qZ vs=some zs->vs=zs.map (V.int .i64)
 | [],zs,h=>by simp[qZ] at h;subst h;rfl
 | v::vs,zs,h=>by
   unfold qZ at h;split at h
   .rename_i a;simp at a
   .rename_i n vs' a;injection a with b c;subst b;subst c;rw[ajr] at h;obtain⟨d,h1,rfl⟩:=h;rw[xM h1];rfl
   simp at h
theorem AO: ∀zs:List Int,qZ (zs.map (V.int .i64))=some zs
 | []=>rfl
 | z::zs=>by simp only[List.map_cons,qZ,AO zs,ajE]
def Hf:List V->Option fu
 | [.msl 1 es 0 len]=>if len=es.length then match qZ es with
     | some a=>if a.length< 4611686018427387904 then some ⟨.tuple [],[(0,(eG a).map (V.int .i64))]⟩ else none
     | none=>none
   else none
 | _=>none
def aa2 (tab:List (Nat×aT)) (f:Nat):Option aT:=(tab.find? (·.1==f)).map (·.2)
def XO (tab:List (Nat× (List V->Option fu))) (f:Nat) (aL:List V):Option fu:=match tab.find? (·.1==f) with
 | some p=>p.2 aL
 | none=>none
structure UY where
 h: (Nat->List V->Option fu)->List V->Option fu
 mono: ∀ (C C':Nat->List V->Option fu),(∀g vs r,C g vs=some r->C' g vs=some r)-> ∀vs r,h C vs=some r->h C' vs=some r
def Mi (tab:List (Nat×UY)) (f:Nat):Option ((Nat->List V->Option fu)->List V->Option fu):=(tab.find? (·.1==f)).map (·.2.h)
theorem J1 (tab:List (Nat×UY)): ∀f h,Mi tab f=some h-> ∀ (C C':Nat->List V->Option fu),(∀g vs r,C g vs=some r->C' g vs=some r)-> ∀vs r,h C vs=some r->h C' vs=some r:=by intro f h hf;unfold Mi at hf;rw[ajr] at hf;obtain⟨p,_,rfl⟩:=hf;exact p.2.mono
def Qz (tab:List (Nat× (List V->Option (List (List V))))) (g:Nat) (caps:List V):Option (List (List V)):=match tab.find? (·.1==g) with
 | some p=>p.2 caps
 | none=>none
abbrev YL:=List V->List V->Option (V×List V)
def QA (tab:List (Nat×YL)) (f:Nat):Option YL:=(tab.find? (·.1==f)).map (·.2)
def mkEM (tab:List (Nat×aT)) (ext:List (Nat× (List V->Option fu))) (hyb:List (Nat×UY)) (iter:List (Nat× (List V->Option (List (List V))))) (em:List (Nat×YL)):Env:={fn:=aa2 tab,ext:=XO ext,hyb:=Mi hyb,mono:=J1 hyb,iter:=Qz iter,Fc:=QA em}
def mkE (tab:List (Nat×aT)) (ext:List (Nat× (List V->Option fu))) (hyb:List (Nat×UY)) (iter:List (Nat× (List V->Option (List (List V))))):Env:=mkEM tab ext hyb iter []
abbrev od (d:Nat) (x:vH):bN:=⟨some d,x,none,[]⟩
abbrev ow (x:vH):bN:=⟨none,x,none,[]⟩
abbrev op (d:Nat) (x:vH) (p:List Nat):bN:=⟨some d,x,none,p⟩
abbrev ic (n:Int):ba:= .const (.int .i64 n)
abbrev fc (n:Nat):ba:= .const (.fn n [])
def fN:Nat->List V->List (List V)
 | i,p::q::rest=> [.int .i64 (i:Int),.agg (p.cells++q.cells)]::fN (i+1) (q::rest)
 | _,_=> []
def Mj:List V->Option (List (List V))
 | [.eptr (.lit 2 ps) 0]=>if ps.length< 4611686018427387904 then some (fN 0 ps) else none
 | [.eptr .nils 0]=>some []
 | _=>none
def AP (skip:Bool) (n:Int):Nat->List V->List (List V)
 | i,p::q::rest=> (if skip && (decide ((i:Int)=n - 1) || decide ((i:Int)=n)) then [] else [[p,q]])++AP skip n (i+1) (q::rest)
 | _,_=> []
def Vq:V->Bool
 | .agg [_,_]=>true
 | _=>false
def Hg (e n:Int):Nat->List V->Option (List (List V))
 | _,[]=>some []
 | k,.agg [.int .i64 _,.lit 2 ps,.int .i64 _,.int .i64 _]::es=>if ps.length< 4611686018427387904/\ps.all Vq=true then(Hg e n (k+1) es).map (AP (decide ((k:Int)=e)) n 0 ps++ ·) else none
 | _,_=>none
def QB:List V->Option (List (List V))
 | [.eptr (.agg [.lit 4 es,_,_,_]) 0,.eptr (.agg (.int .i64 e:: .int .i64 n::_)) 0]=>if es.length< 4611686018427387904/\0<=n/\n< 4611686018427387904 then Hg e n 0 es else none
 | _=>none
def yW:Nat->Int->List V->Option (List (List V))
 | _,_,[]=>some []
 | i,b,.agg [.int .i64 _,.int .i64 a,.int .i64 _,.int .i64 _,.int .i64 _]::es=>if 0<=a/\a<=1024 then(yW (i+1) (a*a) es).map ([.int .i64 (i:Int),.agg [.int .i64 b,.int .i64 (a*a)]]:: ·) else none
 | _,_,_=>none
def J2:List V->Option (List (List V))
 | [.eptr (.agg [.int .i64 _,.lit 5 es]) 0]=>if es.length< 4611686018427387904 then yW 0 0 es else none
 | [.eptr (.agg [.int .i64 _,.nils]) 0]=>some []
 | _=>none
def ko:Nat->List V->V->Option (V×List V)
 | 0,_,_=>none
 | n+1,es,x=>match cP [1,1,1] x es with
   | some none=>some (x,es)
   | some (some y)=>match dj [1,1,1] y x with
     | some true=>some (x,es)
     | some false=>match ko n es y with
       | some (r,es')=> (ef [1,1,1] x r es').map (r,·)
       | none=>none
     | none=>none
   | none=>none
def bQ:V->Bool
 | .agg [.int .i64 _,.int .i64 _,.int .i64 _]=>true
 | _=>false
def jG:V->Bool
 | .tuple [k,v]=>bQ k &&bQ v
 | _=>false
def DG (es aL:List V):Option (V×List V):=match aL with
 | [x]=>if bQ x &&es.all jG then ko 1000000 es x else none
 | _=>none
def DH (es aL:List V):Option (V×List V):=match aL with
 | [a,b]=>if bQ a &&bQ b &&es.all jG then(match ko 1000000 es a with
     | some (c,UZ)=>match ko 1000000 UZ b with
       | some (d,C1)=> (ef [1,1,1] c d C1).map (.tuple [],·)
       | none=>none
     | none=>none) else none
 | _=>none
def J3:V->Option Int
 | .agg [.int .i64 _,.int .i64 a,.int .i64 _,.int .i64 _,.int .i64 _]=>some a
 | _=>none
def q9:V->Bool
 | .lit _ _=>true
 | _=>false
def lM:V->Bool
 | .agg [e,f,w,p]=>q9 e && (q9 f && (q9 w &&q9 p))
 | _=>false
def iu (C:Nat->List V->Option fu) (d:Int):Nat->V->Int->List V->Option (List V)
 | 0,_,_,evs=>some evs
 | n+1,m,b,evs=>match C 644 [m,.int .i64 d,.int .i64 b] with
   | some ⟨.tuple [e,.bool true],[]⟩=> (match J3 e,C 645 [m,e] with
     | some a,some ⟨.tuple [m',.int .i64 c],[]⟩=>
       if lM m'=true then(if c=0 then iu C d n m' a (evs++[e]) else some evs) else none
     | _,_=>none)
   | some ⟨.tuple [e,.bool false],[]⟩=> (match J3 e with
     | some _=>some evs
     | none=>none)
   | _=>none
def Hh (d:Int):List V->V
 | []=> .agg [.int .i64 d,.lit 5 []]
 | evs=> .agg [.int .i64 d,.own 5 evs]
def AQ (C:Nat->List V->Option fu):List V->Option fu
 | [m,.int .i64 d]=>if lM m=true then(iu C d 200 m 0 []).map fun evs=> ⟨Hh d evs,[]⟩ else none
 | _=>none
theorem AR {C C':Nat->List V->Option fu} (h: ∀g vs r,C g vs=some r->C' g vs=some r) {d:Int}: ∀ {n:Nat} {m:V} {b:Int} {evs r:List V},iu C d n m b evs=some r->iu C' d n m b evs=some r
 | 0,_,_,_,_,hr=>hr
 | n+1,m,b,evs,r,hr=>by
   unfold iu at hr ⊢;rcases h1:C 644 [m,.int .i64 d,.int .i64 b] with _| x
   .simp only[h1] at hr;cases hr
   rw[h _ _ _ h1];rw[h1] at hr;split at hr
   .rename_i e he;injection he with he;subst he;rcases ha:J3 e with _| a
    .simp only[ha] at hr;cases hr
    rcases h2:C 645 [m,e] with _| y
    .simp only[ha,h2] at hr;cases hr
    simp only[ha,h _ _ _ h2];simp only[ha,h2] at hr;split at hr
    .rename_i a' m' c f i;injection f with f;injection i with i;subst f i;by_cases hm:lM m'=true
     .rw[if_pos hm] at hr ⊢;by_cases he:c=0
      .rw[if_pos he] at hr ⊢;exact AR h hr
      rw[if_neg he] at hr ⊢;exact hr
     rw[if_neg hm] at hr;cases hr
    cases hr
   .rename_i e he;exact hr
   cases hr
def Mk:UY where
 h:=AQ
 mono:=fun C C' h vs r hr=>by
  unfold AQ at hr ⊢;split at hr
  .split at hr
   .rename_i hc;rw[ajr] at hr;obtain⟨evs,h1,h2⟩:=hr;simp only[if_pos hc,AR h h1,ajE,h2]
   cases hr
  cases hr
structure SS where
 T:List (Nat×V)
 O:List (Nat×Obj)
def lk {α:Type}:List (Nat×α)->Nat->Option α
 | [],_=>none
 | (k,v)::l,n=>bif Nat.beq k n then some v else lk l n
def SS.On (S:SS) (σ:St):Prop:=(∀t v,lk S.T t=some v->σ.T t=v)/\(∀r o,lk S.O r=some o->σ.O r=o)
def SS.put (S:SS) (d:Option Nat) (v:V):SS:=match d with
 | some d=> ⟨(d,v)::S.T,S.O⟩
 | none=>S
def SS.bS (S:SS) (r:Nat) (o:Obj):SS:=⟨S.T,(r,o)::S.O⟩
theorem fB {α:Type} {p:Nat×α} {l:List (Nat×α)} {n:Nat}:lk (p::l) n=if p.1=n then some p.2 else lk l n:=by
 obtain⟨k,v⟩:=p;simp only[lk];by_cases h:k=n
 .simp[h]
 have:Nat.beq k n=false:=by
  cases hb:Nat.beq k n with
  | false=>rfl
  | true=>exact absurd (aj5 hb) h
 simp[h,this]
theorem SS.On.put {S:SS} {σ:St} (h:S.On σ) (d:Option Nat) (v:V): (S.put d v).On (σ.put d v):=by
 cases d with
 | none=>exact h
 | some d=>
   refine⟨fun t x hx=> ?_,fun r o a=> ?_⟩
   .simp only[SS.put,fB] at hx;show dh σ.T d v t=x;unfold dh;by_cases e:d=t
    .simp only[e,if_true,ajq] at hx ⊢;exact hx
    rw[if_neg e] at hx;rw[if_neg (akN e)];exact h.1 t x hx
   exact h.2 r o a
theorem SS.On.bS {S:SS} {σ:St} (h:S.On σ) (r:Nat) (o:Obj): (S.bS r o).On (σ.bS r o):=by
 refine⟨fun t x hx=>h.1 t x hx,fun r' x hx=> ?_⟩;simp only[SS.bS,fB] at hx;show dh σ.O r o r'=x;unfold dh;by_cases e:r=r'
 .simp only[e,if_true,ajq] at hx ⊢;exact hx
 rw[if_neg e] at hx;rw[if_neg (akN e)];exact h.2 r' x hx
inductive bI:Type 1 where
 | done (v:V)
 | fail
 | pc (t:Nat) (k:V->bI)
 | bV (r:Nat) (k:Obj->bI)
 | bS (r:Nat) (o:Obj) (k:bI)
 | vI (r:Nat) (k:Nat->bI)
 | call (f:Nat) (args:List V) (k:fu->bI)
 | cb (p:Prop) (k:bI)
 | ex (α:Type) (p:α->Prop) (k:α->bI)
 | ite (b:Bool) (x y:bI)
 | alt (x y:bI)
 | all (k:Nat->bI)
 | esc (a:Act)
def Ref:bI->Act->Prop
 | .done v,a=>a= .done v
 | .fail,_=>True
 | .pc t k,a=> ∃c,a= .pc t c/\ ∀v,Ref (k v) (c v)
 | .bV r k,a=> ∃c,a= .bV r c/\ ∀o,Ref (k o) (c o)
 | .bS r o k,a=> ∃c,a= .bS r o c/\Ref k c
 | .vI r k,a=> ∃c,a= .bV r c/\ ∀o:Obj,Ref (k (o.gen+1)) (c o)
 | .call f aL k,a=> ∃c,a= .call f aL c/\ ∀res,Ref (k res) (c res)
 | .cb p k,a=>p->Ref k a
 | .ex _ p k,a=> ∀x,p x->Ref (k x) a
 | .ite b x y,a=> (b=true->Ref x a)/\(b=false->Ref y a)
 | .alt x y,a=>Ref x a/\Ref y a
 | .all k,a=> ∃n,Ref (k n) a
 | .esc b,a=>a=b
structure pf (p q:Prop):Prop where
 side:p
 rest:q
inductive fP {α:Type} (p q:α->Prop):Prop
 | mk (x:α) (h:p x) (k:q x)
structure Br (b:Bool) (p q:Prop):Prop where
 yes:b=true->p
 no:b=false->q
inductive eQ (E:Env) (f:Nat) (aL:List V) (q:fu->Prop):Prop
 | mk (res:fu) (h:Ev E f aL res) (k:q res)
theorem Br.tt {p q:Prop} (h:p):Br true p q:=⟨fun _=>h,fun h=>by cases h⟩
theorem Br.ff {p q:Prop} (h:q):Br false p q:=⟨fun h=> (by cases h),fun _=>h⟩
theorem Br.t {c:Prop} {_:Decidable c} {p q:Prop} (h:c) (k:p):Br (decide c) p q:=⟨fun _=>k,fun e=>absurd h (of_decide_eq_false e)⟩
theorem Br.f {c:Prop} {_:Decidable c} {p q:Prop} (h: ¬c) (k:q):Br (decide c) p q:=⟨fun e=>absurd (of_decide_eq_true e) h,fun _=>k⟩
theorem Br.nt {c:Prop} {_:Decidable c} {p q:Prop} (h: ¬c) (k:p):Br (!decide c) p q:=⟨fun _=>k,fun e=>absurd ((by simpa using e:c)) h⟩
theorem Br.nf {c:Prop} {_:Decidable c} {p q:Prop} (h:c) (k:q):Br (!decide c) p q:=⟨fun e=>absurd h ((by simpa using e: ¬c)),fun _=>k⟩
theorem Br.bt {b:Bool} {p q:Prop} (h:b=true) (k:p):Br b p q:=⟨fun _=>k,fun e=> (by rw[h] at e;cases e)⟩
theorem Br.bf {b:Bool} {p q:Prop} (h:b=false) (k:q):Br b p q:=⟨fun e=> (by rw[h] at e;cases e),fun _=>k⟩
abbrev KK:=V->SS->List Loc->List Loc->Prop
structure QC (E:Env) (a:Act) (S:SS) (Q:KK):Prop where
 h: ∀σ,S.On σ->Ab E a σ fun v σ' r w=> ∃S',S'.On σ'/\Q v S' r w
def fX (E:Env):bI->SS->KK->Prop
 | .done v,S,Q=>Q v S [] []
 | .fail,_,_=>False
 | .pc t k,S,Q=>match lk S.T t with
   | some v=>fX E (k v) S fun v S' r w=>Q v S' (.t t::r) w
   | none=>False
 | .bV t k,S,Q=>match lk S.O t with
   | some v=>fX E (k v) S fun v S' r w=>Q v S' (.o t::r) w
   | none=>False
 | .bS t o k,S,Q=>match S with
   | ⟨T,O⟩=>fX E k ⟨T,(t,o)::O⟩ fun v S' r w=>Q v S' r (.o t::w)
 | .vI t k,S,Q=> ∀g:Nat,fX E (k g) S fun v S' r w=>Q v S' (.o t::r) w
 | .call f aL k,S,Q=>eQ E f aL fun res=>fX E (k res) S Q
 | .cb p k,S,Q=>pf p (fX E k S Q)
 | .ex _ p k,S,Q=>fP p fun x=>fX E (k x) S Q
 | .ite b x y,S,Q=>Br b (fX E x S Q) (fX E y S Q)
 | .alt x y,S,Q=>fX E x S Q\/fX E y S Q
 | .all k,S,Q=> ∀n,fX E (k n) S Q
 | .esc a,S,Q=>QC E a S Q
theorem dm {E:Env}: ∀ {g:bI} {a:Act} {S:SS} {Q:KK} {σ:St},Ref g a->fX E g S Q->S.On σ->Ab E a σ fun v σ' r w=> ∃S',S'.On σ'/\Q v S' r w
 | .done v,a,S,Q,σ,hr,h,c=>by
   simp only[Ref] at hr;subst hr;rw[Qp];exact⟨S,c,h⟩
 | .fail,_,_,_,_,_,h,_=>by simp[fX] at h
 | .pc t k,a,S,Q,σ,hr,h,c=>by
   obtain⟨e,rfl,d⟩:=hr;rw[Qq];simp only[fX] at h;split at h
   .rename_i v hv;rw[c.1 t v hv];exact dm (d v) h c
   exact h.elim
 | .bV t k,a,S,Q,σ,hr,h,c=>by
   obtain⟨e,rfl,d⟩:=hr;rw[Hc];simp only[fX] at h;split at h
   .rename_i v hv;rw[c.2 t v hv];exact dm (d v) h c
   exact h.elim
 | .bS t o k,a,S,Q,σ,hr,h,c=>by
   obtain⟨e,rfl,d⟩:=hr;rw[Qr];simp only[fX] at h;obtain⟨T,O⟩:=S;exact dm d h (c.bS t o)
 | .vI t k,a,S,Q,σ,hr,h,c=>by
   obtain⟨e,rfl,d⟩:=hr;rw[Hc];simp only[fX] at h;exact dm (d (σ.O t)) (h _) c
 | .call f aL k,a,S,Q,σ,hr,h,c=>by
   obtain⟨e,rfl,d⟩:=hr;rw[Qs];simp only[fX] at h;obtain⟨res,he,h⟩:=h;exact⟨res,he,dm (d res) h c⟩
 | .cb p k,a,S,Q,σ,hr,h,c=>dm (hr h.1) h.2 c
 | .ex α p k,a,S,Q,σ,hr,h,c=>by
   simp only[fX] at h;obtain⟨x,hx,h⟩:=h;exact dm (hr x hx) h c
 | .ite b x y,a,S,Q,σ,hr,h,c=>by
   simp only[fX] at h;simp only[Ref] at hr;cases b with
   | true=>exact dm (hr.1 rfl) (h.1 rfl) c
   | false=>exact dm (hr.2 rfl) (h.2 rfl) c
 | .alt x y,a,S,Q,σ,hr,h,c=>by
   simp only[fX] at h;rcases h with h| h
   .exact dm hr.1 h c
   exact dm hr.2 h c
 | .all k,a,S,Q,σ,hr,h,c=>by
   obtain⟨n,hr⟩:=hr;exact dm hr (h n) c
 | .esc b,a,S,Q,σ,hr,h,c=>by simp only[Ref] at hr;subst hr;exact h.h σ c
def nth {α:Type}:List α->Nat->Option α
 | [],_=>none
 | x::_,0=>some x
 | _::l,n+1=>nth l n
theorem J4 {α:Type}: ∀ (l:List α) (n:Nat),nth l n=l[n]?
 | [],_=>by simp[nth]
 | _::_,0=>by simp[nth]
 | _::l,n+1=>by simp[nth,J4 l n]
def force {α:Type} {β:Type 1}:List α->(List α->β)->β
 | [],k=>k []
 | x::l,k=>force l fun a=>k (x::a)
theorem force_eq {α:Type} {β:Type 1}: ∀ (l:List α) (k:List α->β),force l k=k l
 | [],_=>rfl
 | _::l,k=>by simp only[force,force_eq l]
def Fe {α:Type}:List α->Nat->α->List α
 | [],_,_=> []
 | _::l,0,y=>y::l
 | x::l,n+1,y=>x::Fe l n y
theorem Ad {α:Type}: ∀ (l:List α) (n:Nat) (y:α),Fe l n y=l.set n y
 | [],_,_=>by simp[Fe]
 | _::_,0,_=>by simp[Fe]
 | _::l,n+1,y=>by simp[Fe,Ad l n y]
def jb {α:Type}:List α->Nat->Bool
 | [],0=>true
 | _::l,n+1=>jb l n
 | _,_=>false
theorem pg {α:Type}: ∀ {l:List α} {n:Nat},jb l n=true->l.length=n
 | [],0,_=>rfl
 | _::l,n+1,h=>by simp only[jb] at h;simp[pg h]
 | [],_+1,h=>by simp[jb] at h
 | _::_,0,h=>by simp[jb] at h
def jz {α:Type}:List α->Nat->Bool
 | _,0=>true
 | _::l,n+1=>jz l n
 | [],_+1=>false
theorem pj {α:Type}: ∀ {l:List α} {n:Nat},jz l n=true->n<=l.length
 | _,0,_=>akk _
 | _::l,n+1,h=>by simp only[jz] at h;simpa using pj h
 | [],_+1,h=>by simp[jz] at h
def takeN {α:Type}:List α->Nat->List α
 | _,0=> []
 | x::l,n+1=>x::takeN l n
 | [],_+1=> []
theorem vJ {α:Type}: ∀ (l:List α) (n:Nat),takeN l n=l.take n
 | _,0=>by simp[takeN]
 | _::l,n+1=>by simp[takeN,vJ l n]
 | [],_+1=>by simp[takeN]
def tV {α:Type}:List α->Nat->List α
 | l,0=>l
 | _::l,n+1=>tV l n
 | [],_+1=> []
theorem vK {α:Type}: ∀ (l:List α) (n:Nat),tV l n=l.drop n
 | _,0=>by simp[tV]
 | _::l,n+1=>by simp[tV,vK l n]
 | [],_+1=>by simp[tV]
def oN (v:V) (sz:Nat):Bool:=match v with
 | .agg cs=>jb cs sz
 | v=>V.aZ v &&Nat.beq sz 1
theorem pk {v:V} {sz:Nat} (h:oN v sz=true):bj v sz=true:=by
 unfold oN at h;split at h
 .simp[bj,V.cells,V.dw,V.isAgg,pg h]
 rename_i hn;simp only[ajt] at h;have h1:sz=1:=aj5 h.2;have h2:v.cells=[v]:=by cases v<;>simp_all[V.cells]
 simp[bj,V.dw,h2,h1,h.1]
def AS (agg:Bool) (off sz:Nat) (e:V):Option V:=
 match agg with
 | true=>match e with
   | .agg cs=>bif Nat.beq off 0 &&jb cs sz then some e else bif jz cs (off+sz) then some (.agg (takeN (tV cs off) sz)) else none
   | _=>none
 | false=>match e with
   | .agg cs=>nth cs off
   | v=>bif V.aZ v &&Nat.beq off 0 then some v else none
theorem pn {agg:Bool} {off sz:Nat} {e v:V} (h:AS agg off sz e=some v):AM.part agg off sz e=some v:=by
 cases agg with
 | true=>
   simp only[AS] at h;cases e with
   | agg cs=>
     simp only at h;cases hb: (Nat.beq off 0 &&jb cs sz) with
     | true=>
       simp only[hb,cond_true,ajq] at h;subst h;simp only[ajt] at hb;have h1:off=0:=aj5 hb.1;have h2:=pg hb.2;simp[AM.part,h1,<-h2]
     | false=>
       simp only[hb,cond_false] at h;cases hc:jz cs (off+sz) with
       | true=>
         simp only[hc,cond_true,ajq] at h;subst h;simp[AM.part,vJ,vK,pj hc]
       | false=>simp[hc] at h
   | _=>simp at h
 | false=>
   simp only[AS] at h;cases e with
   | agg cs=>simp only[J4] at h;simpa [AM.part] using h
   | _=>
     simp only[V.aZ,alm,Bool.false_and,cond_false] at h;first
     | (simp at h;done)
     | (cases hb:Nat.beq off 0 with
        | true=>simp only[hb,cond_true] at h;have h1:=aj5 hb;simp[AM.part,h1,V.aZ];simpa using h
        | false=>simp[hb] at h)
def kZ (agg:Bool) (off sz:Nat) (e v:V):Option V:=
 match agg with
 | true=>match e,v with
   | .agg cs,.agg vs=>bif jb vs sz then(bif Nat.beq off 0 &&jb cs sz then some v else bif jz cs (off+sz) then some (.agg (takeN cs off++(vs++tV cs (off+sz)))) else none) else none
   | _,_=>none
 | false=>bif V.aZ v &&Nat.beq sz 1 then match e with
    | .agg cs=>bif jz cs (off+1) then some (.agg (Fe cs off v)) else none
    | e=>bif V.aZ e &&Nat.beq off 0 then some v else none
   else none
theorem yX {agg:Bool} {off sz:Nat} {e v x:V} (h:kZ agg off sz e v=some x):lW agg off sz e v=some x:=by
 cases agg with
 | true=>
   simp only[kZ] at h;split at h
   . rename_i cs vs
     cases h1:jb vs sz with
     | false=>simp[h1] at h
     | true=>
       have DI:=pg h1;simp only[h1,cond_true] at h;cases hb: (Nat.beq off 0 &&jb cs sz) with
       | true=>
         simp only[hb,cond_true,ajq] at h;subst h;simp only[ajt] at hb;have h3:off=0:=aj5 hb.1;have h2:=pg hb.2;subst h3;simp[lW,DI,h2]
       | false=>
         simp only[hb,cond_false] at h;cases hc:jz cs (off+sz) with
         | true=>
           simp only[hc,cond_true,ajq] at h;subst h;simp[lW,vJ,vK,pj hc,DI]
         | false=>simp[hc] at h
   simp at h
 | false=>
   simp only[kZ] at h;cases hb: (V.aZ v &&Nat.beq sz 1) with
   | false=>simp[hb] at h
   | true=>
     simp only[hb,cond_true] at h;simp only[ajt] at hb;have h1:sz=1:=aj5 hb.2;split at h
     . rename_i cs
       cases hc:jz cs (off+1) with
       | false=>simp[hc] at h
       | true=>
         simp only[hc,cond_true,ajq] at h;subst h;have:=pj hc;simp[lW,hb.1,h1,Ad];omega
     rename_i hn;cases hc: (V.aZ e &&Nat.beq off 0) with
     | false=>simp[hc] at h
     | true=>
       simp only[hc,cond_true,ajq] at h;subst h;simp only[ajt] at hc;have h3:off=0:=aj5 hc.2;cases e<;>simp_all[lW,V.aZ]
def mL:Option V->bI
 | some v=> .done v
 | none=> .fail
def re (agg:Bool) (off sz:Nat) (e:V):bI:=
 match agg with
 | true=>match e with
   | .agg cs=>bif Nat.beq off 0 &&jb cs sz then .done e else bif jz cs (off+sz) then force (takeN (tV cs off) sz) fun l=> .done (.agg l) else .fail
   | _=> .fail
 | false=>match e with
   | .agg cs=>mL (nth cs off)
   | v=>bif V.aZ v &&Nat.beq off 0 then .done v else .fail
theorem vL {agg:Bool} {off sz:Nat} {e:V}:re agg off sz e=mL (AS agg off sz e):=by
 unfold re AS;cases agg with
 | true=>
   cases e with
   | agg cs=>
     simp only;cases hb: (Nat.beq off 0 &&jb cs sz) with
     | true=>rfl
     | false=>
       simp only[cond_false];cases hc:jz cs (off+sz) with
       | true=>simp only[cond_true,force_eq];rfl
       | false=>rfl
   | _=>rfl
 | false=>
   cases e with
   | agg cs=>rfl
   | _=>simp only;cases hb:Nat.beq off 0 <;>simp[V.aZ,mL]
def QD (agg:Bool) (off sz:Nat) (e v:V) (k:V->bI):bI:=
 match agg with
 | true=>match e,v with
   | .agg cs,.agg vs=>bif jb vs sz then(bif Nat.beq off 0 &&jb cs sz then k v else bif jz cs (off+sz) then force (takeN cs off++(vs++tV cs (off+sz))) fun l=>k (.agg l) else .fail) else .fail
   | _,_=> .fail
 | false=>bif V.aZ v &&Nat.beq sz 1 then match e with
    | .agg cs=>bif jz cs (off+1) then force (Fe cs off v) fun l=>k (.agg l) else .fail
    | e=>bif V.aZ e &&Nat.beq off 0 then k v else .fail
   else .fail
theorem Vr {agg:Bool} {off sz:Nat} {e v:V} {k:V->bI}:QD agg off sz e v k=match kZ agg off sz e v with
   | some x=>k x
   | none=> .fail:=by
 unfold QD kZ;cases agg with
 | true=>
   simp only;split
   . rename_i cs vs
     cases jb vs sz with
     | false=>rfl
     | true=>
       simp only[cond_true];cases (Nat.beq off 0 &&jb cs sz) with
       | true=>rfl
       | false=>
         simp only[cond_false];cases jz cs (off+sz) with
         | true=>simp only[cond_true,force_eq]
         | false=>rfl
   rfl
 | false=>
   simp only;cases (V.aZ v &&Nat.beq sz 1) with
   | false=>rfl
   | true=>
     simp only[cond_true];split
     . rename_i cs
       cases jz cs (off+1) with
       | true=>simp only[cond_true,force_eq]
       | false=>rfl
     cases (V.aZ e &&Nat.beq off 0) <;>rfl
def iK (x:ba) (k:V->bI):bI:=match x with
 | .tmp t=> .pc t k
 | .const v=>k v
theorem Ref.ev {x:ba} {k:V->bI} {a:V->Act} (h: ∀v,Ref (k v) (a v)):Ref (iK x k) (AM.ev x a):=by
 cases x with
 | tmp t=>exact⟨a,rfl,h⟩
 | const v=>exact h v
def Hi:List ba->(List V->bI)->bI
 | [],k=>k []
 | x::xs,k=>iK x fun v=>Hi xs fun vs=>k (v::vs)
theorem Ref.evs: ∀ {xs:List ba} {k:List V->bI} {a:List V->Act},(∀v,Ref (k v) (a v))->Ref (Hi xs k) (AM.evs xs a)
 | [],_,_,h=>h []
 | x::xs,_,_,h=>Ref.ev fun v=>Ref.evs fun vs=>h (v::vs)
def Vs:Option ba->(Option V->bI)->bI
 | none,k=>k none
 | some x,k=>iK x fun v=>k (some v)
theorem Ref.P0 {x:Option ba} {k:Option V->bI} {a:Option V->Act} (h: ∀v,Ref (k v) (a v)):Ref (Vs x k) (AM.P0 x a):=by
 cases x with
 | none=>exact h none
 | some x=>exact Ref.ev fun v=>h (some v)
theorem Ref.fi {o o0:Option V} (h: ∀v,o=some v->o0=some v):Ref (mL o) (AM.fi o0):=by
 cases o with
 | none=>trivial
 | some v=>rw[h v rfl];exact rfl
theorem Ref.iL {o:Option V}:Ref (mL o) (AM.fi o):=Ref.fi fun _ h=>h
def AT (c:V) (k:V->bI):bI:=
 match c with
 | .sl r g off len=> .bV r fun ⟨b,d,f,h,e⟩=>match e with
   | some es=> .ex (List V) (fun a=>aN es off len=a) fun a=> .cb (b=g/\f=true/\off+len<=es.length/\V.al a=true) (.bS r ⟨b,d,f,true,e⟩ (k (.lit d a)))
   | none=> .fail
 | .mp r g=> .bV r fun ⟨b,d,f,h,e⟩=>match e with
   | some es=> .ex (List V) (fun a=>es=a) fun a=> .cb (b=g/\d=0/\V.al a=true/\a.all V.isTuple=true) (.bS r ⟨b,d,f,true,e⟩ (k (.mlit a)))
   | none=> .fail
 | .own .. | .msl .. | .mptr .. | .any| .it .. => .fail
 | c=>k c
theorem Ref.jN {c:V} {k:V->bI} {a:V->Act} (h: ∀v,Ref (k v) (a v)):Ref (AT c k) (AM.jN c a):=by
 cases c
 case sl r g off len=>
  refine⟨_,rfl,fun ⟨gen,sz,arr,fz,es⟩=> ?_⟩;cases es with
  | none=>trivial
  | some es=>
    rintro b rfl hc;simp only[hc,and_self,if_true];refine⟨_,by simp[hc],h _⟩
 case mp r g=>
  refine⟨_,rfl,fun ⟨gen,sz,arr,fz,es⟩=> ?_⟩;cases es with
  | none=>trivial
  | some es=>
    rintro b rfl hc;simp only[hc,and_self,if_true];refine⟨_,by simp[hc],h _⟩
 all_goals first| exact h _| trivial
def Ff (b:Bool) (c:V) (k:V->bI):bI:=
 match b,c with
 | true,.ptr r g 0 off=> .bV r fun ⟨a,d,h,i,f⟩=>match f with
   | some [e]=> .cb (a=g/\0 <d/\V.az e=true) (.bS r ⟨a,d,h,true,f⟩ (k (.eptr e off)))
   | _=> .fail
 | _,c=>k c
theorem Ref.uL {b:Bool} {c:V} {k:V->bI} {a:V->Act} (h: ∀v,Ref (k v) (a v)):Ref (Ff b c k) (AM.uL b c a):=by
 unfold Ff AM.uL;split
 .refine⟨_,rfl,fun ⟨gen,sz,arr,fz,es⟩=> ?_⟩;dsimp only;split
  .intro hc;simp only[hc,and_self,if_true];refine⟨_,by simp[hc],h _⟩
  trivial
 split
 .rename_i hx;exact absurd rfl (hx _ _ _ rfl)
 exact h _
def AU:List (Bool×ba)->(List V->bI)->bI
 | [],k=>k []
 | (b,x)::xs,k=>iK x fun c=>Ff b c fun a=>AU xs fun cs=>k (a::cs)
theorem Ref.lX: ∀ {xs:List (Bool×ba)} {k:List V->bI} {a:List V->Act},(∀v,Ref (k v) (a v))->Ref (AU xs k) (AM.lX xs a)
 | [],_,_,h=>h []
 | (_,_)::_,_,_,h=>Ref.ev fun _=>Ref.uL fun v=>Ref.lX fun vs=>h (v::vs)
def xN:List V->(List V->bI)->bI
 | [],k=>k []
 | c::cs,k=>AT c fun a=>xN cs fun b=>k (a::b)
theorem Ref.mM: ∀ {cs:List V} {k:List V->bI} {a:List V->Act},(∀v,Ref (k v) (a v))->Ref (xN cs k) (AM.mM cs a)
 | [],_,_,h=>h []
 | _::_,_,_,h=>Ref.jN fun v=>Ref.mM fun vs=>h (v::vs)
def C2 (v:V) (k:V->bI):bI:=
 bif V.az v then k v else
 match v with
 | .agg cs=>xN cs fun a=>k (.agg a)
 | v=>AT v k
theorem Ref.DJ {v:V} {k:V->bI} {a:V->Act} (h: ∀v,Ref (k v) (a v)):Ref (C2 v k) (AM.DJ v a):=by
 unfold C2 AM.DJ;cases hp:V.az v with
 | true=>simpa using h v
 | false=>
   simp only[cond_false,ajA,if_false];cases v
   case agg cs=>exact Ref.mM fun b=>h _
   all_goals exact Ref.jN h
def Ml (vs:List V) (k:List V->bI):bI:=
 .alt (.cb (V.al vs=true) (k vs)) (match vs with
  | [v]=>C2 v fun v'=>k [v']
  | _=> .fail)
theorem Ref.oM {vs:List V} {k:List V->bI} {a:List V->Act} (h: ∀v,Ref (k v) (a v)):Ref (Ml vs k) (AM.oM vs a):=by
 unfold Ml;refine⟨?_,?_⟩
 .intro hp;simp only[AM.oM,hp,if_true];exact h _
 split
 .rename_i v;unfold AM.oM;by_cases hp:V.al [v]=true
  .rw[if_pos hp];have h1:V.az v=true:=by simpa [V.al] using hp
   unfold C2;simp only[h1,cond_true];exact h _
  rw[if_neg hp];simp only[AM.oM.go];exact Ref.DJ fun v'=>h _
 trivial
def Fg (f:V->(V->List Nat->bI)->bI):List V->(List V->List Nat->bI)->bI
 | [],k=>k [] []
 | c::cs,k=>f c fun a r=>Fg f cs fun b rs=>k (a::b) (r++rs)
theorem Ref.tW {f:V->(V->List Nat->bI)->bI} {f0:V->(V->List Nat->Act)->Act} (hf: ∀c k a,(∀v rs,Ref (k v rs) (a v rs))->Ref (f c k) (f0 c a)):
  ∀ {cs:List V} {k:List V->List Nat->bI} {a:List V->List Nat->Act},(∀v rs,Ref (k v rs) (a v rs))->Ref (Fg f cs k) (AM.tW f0 cs a)
 | [],_,_,h=>h _ _
 | _::_,_,_,h=>hf _ _ _ fun v rs=>Ref.tW hf fun vs rs'=>h _ _
def gU:Nat->V->(V->List Nat->bI)->bI
 | 0,v,k=> .cb (V.az v=true) (k v [])
 | d+1,v,k=>bif V.az v then k v [] else
   match v with
   | .agg cs=>Fg (gU d) cs fun b rs=>k (.agg b) rs
   | .fn f cs=>Fg (gU d) cs fun b rs=>k (.fn f b) rs
   | .iface t x=>gU d x fun l rs=>k (.iface t l) rs
   | .sl r g off len=> .bV r fun ⟨c,i,j,m,h⟩=>match h with
     | some es=> .ex (List V) (fun a=>aN es off len=a) fun a=> .cb (c=g/\j=true/\off+len<=es.length/\V.al a=true) (k (.lit i a) [r])
     | none=> .fail
   | .ptr r g idx off=> .bV r fun ⟨c,i,j,m,h⟩=>match h with
     | some es=> .cb (c=g) (match es with
       | [e]=> (match idx with| 0=>gU d e fun e' rs=>k (.eptr e' off) (r::rs) | _+1=> .fail)
       | es=> .ex V (fun e=>es[idx]? =some e) fun e=>gU d e fun e' rs=>k (.eptr e' off) (r::rs))
     | none=> .fail
   | _=> .fail
theorem Ref.iv: ∀ {d:Nat} {v:V} {k:V->List Nat->bI} {a:V->List Nat->Act},(∀v rs,Ref (k v rs) (a v rs))->Ref (gU d v k) (AM.iv d v a)
 | 0,v,k,a,h=>by
   intro hp;simp only[AM.iv,hp,if_true];exact h _ _
 | d+1,v,k,a,h=>by
   unfold gU AM.iv;cases hp:V.az v with
   | true=>simpa using h v []
   | false=>
     simp only[cond_false,ajA,if_false];cases v
     case agg cs=>exact Ref.tW (f:=gU d) (f0:=AM.iv d) (fun c k a h=>Ref.iv h) fun b rs=>h _ _
     case fn f cs=>exact Ref.tW (f:=gU d) (f0:=AM.iv d) (fun c k a h=>Ref.iv h) fun b rs=>h _ _
     case iface t x=>exact Ref.iv fun i rs=>h _ _
     case sl r g off len=>
      refine⟨_,rfl,fun ⟨gen,sz,arr,fz,es⟩=> ?_⟩;cases es with
      | none=>trivial
      | some es=>
        rintro j rfl hc
        try simp only at hc
        simp only[hc,and_self,if_true,Ae];exact h _ _
     case ptr r g idx off=>
      refine⟨_,rfl,fun ⟨gen,sz,arr,fz,es⟩=> ?_⟩;cases es with
      | none=>trivial
      | some es=>
        intro hc
        try simp only at hc
        simp only[hc,if_true];split
        .  rename_i e
           cases idx with
           | zero=>exact Ref.iv fun e' rs=>h _ _
           | succ n=>trivial
        intro e he;simp only[he];exact Ref.iv fun e' rs=>h _ _
     all_goals trivial
def ec (   r0:Nat):List V->List (Option Nat)->Nat->(List V->List Nat->List eY->bI)->bI
 | [],_,_,k=>k [] [] []
 | v::vs,m::a,i,k=>
   match m with
   | some sz=>match v with
     | .nils=> .cb (0 <sz) (ec r0 vs a (i+1) fun aL rs ws=>k (.msl sz [] 0 0::aL) rs (⟨i,r0+i,some sz⟩::ws))
     | .sl r g off len=> .bV r fun ⟨b,c,f,d,e⟩=>match e with
       | some es=> .cb (b=g/\d=false/\c=sz/\off+len<=es.length/\V.al es=true)
          (ec r0 vs a (i+1) fun aL rs ws=>k (.msl sz es off len::aL) rs (⟨i,r,none⟩::ws))
       | none=> .fail
     | .ptr r g idx off=> .bV r fun ⟨b,c,f,d,e⟩=>match e with
       | some es=> .cb (b=g/\d=false/\c=sz/\V.al es=true)
          (ec r0 vs a (i+1) fun aL rs ws=>k (.mptr sz es idx off::aL) rs (⟨i,r,none⟩::ws))
       | none=> .fail
     | _=> .fail
   | none=>gU 5 v fun v' rs=>ec r0 vs a (i+1) fun aL rs' ws=>k (v'::aL) (rs++rs') ws
 | v::vs,[],i,k=>gU 5 v fun v' rs=>ec r0 vs [] (i+1) fun aL rs' ws=>k (v'::aL) (rs++rs') ws
theorem Ref.eh {r0:Nat}: ∀ {vs:List V} {e:List (Option Nat)} {i:Nat} {k:List V->List Nat->List eY->bI} {d:List V->List Nat->List eY->Act},
   (∀a b c,Ref (k a b c) (d a b c))->Ref (ec r0 vs e i k) (AM.eh r0 vs e i d)
 | [],_,_,_,_,h=>h _ _ _
 | v::vs,[],i,k,d,h=>Ref.iv fun v' rs=>Ref.eh fun a b c=>h _ _ _
 | v::vs,none::e,i,k,d,h=>Ref.iv fun v' rs=>Ref.eh fun a b c=>h _ _ _
 | v::vs,some sz::e,i,k,d,h=>by
   unfold ec AM.eh;cases v
   case nils=>
    intro hc;simp only[hc,if_true];exact Ref.eh fun a b c=>h _ _ _
   case sl r g off len=>
    refine⟨_,rfl,fun ⟨gen,sz,arr,fz,es⟩=> ?_⟩;cases es with
    | none=>trivial
    | some es=>
      intro hc
      try simp only at hc
      simp only[hc,and_self,if_true];exact Ref.eh fun a b c=>h _ _ _
   case ptr r g idx off=>
    refine⟨_,rfl,fun ⟨gen,sz,arr,fz,es⟩=> ?_⟩;cases es with
    | none=>trivial
    | some es=>
      intro hc
      try simp only at hc
      simp only[hc,and_self,if_true];exact Ref.eh fun a b c=>h _ _ _
   all_goals trivial
def qb:List Nat->bI->bI
 | [],k=>k
 | r::rs,k=> .bV r fun ⟨a,b,c,e,d⟩=> .bS r ⟨a,b,c,true,d⟩ (qb rs k)
theorem Ref.eC: ∀ {rs:List Nat} {k:bI} {a:Act},Ref k a->Ref (qb rs k) (AM.eC rs a)
 | [],_,_,h=>h
 | _::_,_,_,h=> ⟨_,rfl,fun ⟨_,_,_,_,_⟩=> ⟨_,rfl,Ref.eC h⟩⟩
def jO:List eY->List (Nat×List V)->(List (Nat×Nat×Nat)->bI)->bI
 | [],[],k=>k []
 | ⟨i,r,fresh⟩::ws,(a,es)::outs,k=> .bV r fun ⟨b,d,e,f,g⟩=>match fresh with
   | none=> .bS r ⟨b+a,d,e,f,some es⟩ (jO ws outs fun c=>k ((i,r,b+a)::c))
   | some sz=> .bS r {gen:=b+1,sz,arr:=true,fz:=false,es:=some es} (jO ws outs fun c=>k ((i,r,b+1)::c))
 | _,_,_=> .fail
theorem Ref.fY: ∀ {ws:List eY} {outs:List (Nat×List V)} {k:List (Nat×Nat×Nat)->bI} {a:List (Nat×Nat×Nat)->Act},(∀g,Ref (k g) (a g))->Ref (jO ws outs k) (AM.fY ws outs a)
 | [],[],_,_,h=>h _
 | [],_::_,_,_,_=>trivial
 | _::_,[],_,_,_=>trivial
 | ⟨i,r,fresh⟩::ws,(b,es)::outs,k,a,h=>by
   refine⟨_,rfl,fun ⟨gen,sz,arr,fz,es'⟩=> ?_⟩;cases fresh with
   | none=>exact⟨_,rfl,Ref.fY fun g=>h _⟩
   | some sz=>exact⟨_,rfl,Ref.fY fun g=>h _⟩
theorem Ref.bif {b:Bool} {x:bI} {a:Act} (h:Ref x a):Ref (bif b then x else .fail) (if b=true then a else .fail):=by
 cases b with
 | true=>simpa using h
 | false=>trivial
def nT (bG:Bool) (r:Nat) (gs:List (Nat×Nat×Nat)) (c:V) (k:V->bI):bI:=
 match c with
 | .own sz xs=> (match bG with
   | true=> .vI r fun g=> .bS r {gen:=g,sz,arr:=true,fz:=false,es:=some xs} (k (.sl r g 0 xs.length))
   | false=>k (.lit sz xs))
 | .sl i _ off len=>match qc i gs with
   | some (r',a)=>k (.sl r' a off len)
   | none=> .fail
 | c=>bif V.az c then k c else .fail
theorem Ref.dY {bG:Bool} {r:Nat} {gs:List (Nat×Nat×Nat)} {c:V} {k:V->bI} {a:V->Act} (h: ∀v,Ref (k v) (a v)):Ref (nT bG r gs c k) (AM.dY bG r gs c a):=by
 unfold nT AM.dY;cases c
 case own sz xs=>
  cases bG with
  | true=>exact⟨_,rfl,fun o=> ⟨_,rfl,h _⟩⟩
  | false=>exact h _
 case sl i g off len=>
  simp only;cases qc i gs with
  | none=>trivial
  | some p=>exact h _
 all_goals exact Ref.bif (h _)
def qd (bG:Bool):Nat->List (Nat×Nat×Nat)->List V->(List V->bI)->bI
 | _,_,[],k=>k []
 | r,a,c::cs,k=>nT bG r a c fun b=>qd bG (r+1) a cs fun d=>k (b::d)
theorem Ref.fR {bG:Bool}: ∀ {cs:List V} {r:Nat} {gs:List (Nat×Nat×Nat)} {k:List V->bI} {a:List V->Act},(∀v,Ref (k v) (a v))->Ref (qd bG r gs cs k) (AM.fR bG r gs cs a)
 | [],_,_,_,_,h=>h _
 | _::_,_,_,_,_,h=>Ref.dY fun b=>Ref.fR fun c=>h _
def vM (bG:Bool) (r:Nat) (gs:List (Nat×Nat×Nat)) (v:V) (k:V->bI):bI:=
 bif V.az v then k v else
 match v with
 | .agg cs=>qd bG r gs cs fun a=>k (.agg a)
 | v=>nT bG r gs v k
theorem Ref.kN {bG:Bool} {r:Nat} {gs:List (Nat×Nat×Nat)} {v:V} {k:V->bI} {a:V->Act} (h: ∀v,Ref (k v) (a v)):Ref (vM bG r gs v k) (AM.kN bG r gs v a):=by
 unfold vM AM.kN;cases hp:V.az v with
 | true=>simpa using h v
 | false=>
   simp only[cond_false,ajA,if_false];cases v
   case agg cs=>exact Ref.fR fun b=>h _
   all_goals exact Ref.dY h
def xO (bG:Bool):Nat->List (Nat×Nat×Nat)->List V->(List V->bI)->bI
 | _,_,[],k=>k []
 | r,a,v::vs,k=>vM bG r a v fun v'=>xO bG (r+8) a vs fun vs'=>k (v'::vs')
theorem Ref.la {bG:Bool}: ∀ {vs:List V} {r:Nat} {gs:List (Nat×Nat×Nat)} {k:List V->bI} {a:List V->Act},(∀v,Ref (k v) (a v))->Ref (xO bG r gs vs k) (AM.la bG r gs vs a)
 | [],_,_,_,_,h=>h _
 | _::_,_,_,_,_,h=>Ref.kN fun b=>Ref.la fun c=>h _
def fZ (bG:Bool) (r:Nat) (gs:List (Nat×Nat×Nat)) (v:V) (k:V->bI):bI:=
 bif V.az v then k v else
 match v with
 | .tuple vs=>xO bG r gs vs fun vs'=>k (.tuple vs')
 | v=>vM bG r gs v k
theorem Ref.eV {bG:Bool} {r:Nat} {gs:List (Nat×Nat×Nat)} {v:V} {k:V->bI} {a:V->Act} (h: ∀v,Ref (k v) (a v)):Ref (fZ bG r gs v k) (AM.eV bG r gs v a):=by
 unfold fZ AM.eV;cases hp:V.az v with
 | true=>simpa using h v
 | false=>
   simp only[cond_false,ajA,if_false];cases v
   case tuple cs=>exact Ref.la fun b=>h _
   all_goals exact Ref.kN h
def bu (E:Env) (f:Nat):List (Option Nat):=match E.fn f with
 | some af=>af.c6
 | none=> []
def lY (E:Env) (r:Nat) (bG:Bool) (f:Nat) (args:List V):bI:=
 ec ( r+8) args (bu E f) 0 fun aL rs ws=>
  .cb ((apart rs (ws.map (·.r)) &&distinct (ws.map (·.r)))=true) <| .call f aL fun ⟨val,outs⟩=>
   match rs with
   | []=>jO ws outs fun a=>fZ bG r a val .done
   | rs=>bif (V.isScalar val || xP r bG val) &&outs.all (fun o=>V.bz o.2) then jO ws outs fun a=>fZ bG r a val .done
     else qb rs (jO ws outs fun a=>fZ bG r a val .done)
theorem Ref.mN {E:Env} {r:Nat} {bG:Bool} {f:Nat} {args:List V}:Ref (lY E r bG f args) (AM.mN E r bG f args):=by
 unfold lY AM.mN;refine Ref.eh fun aL rs ws=> ?_;intro hc;simp only[hc,if_true];refine⟨_,rfl,fun ⟨val,outs⟩=> ?_⟩;have b:Ref (jO ws outs fun c=>fZ bG r c val .done) (AM.fY ws outs fun c=>AM.eV bG r c val .done):=
   Ref.fY fun c=>Ref.eV fun v=>rfl
 cases rs with
 | nil=>
   simp only[eC];split<;>exact b
 | cons a rs=>
   simp only;cases hb: ((V.isScalar val || xP r bG val) &&outs.all fun o=>V.bz o.2) with
   | true=>simp only[cond_true,if_true];exact b
   | false=>simp only[cond_false,ajA,if_false];exact Ref.eC b
def AV (d:Nat) (o:Option V) (k:Nat->bI):bI:=match o with
 | none=>k d
 | some (.int _ n)=> .cb (0<=n) (k n.toNat)
 | some _=> .fail
theorem Ref.Vt {d:Nat} {o:Option V} {k:Nat->bI} {a:Act} (h: ∀n,cY d o=some n->Ref (k n) a):Ref (AV d o k) a:=by
 unfold AV;split
 .exact h _ rfl
 .rename_i K n;intro h0;exact h _ (by simp[cY,h0])
 trivial
def AW:List (Nat×Nat×ba)->(List (Nat×Nat×V)->bI)->bI
 | [],k=>k []
 | (off,sz,x)::ps,k=>iK x fun v=>AW ps fun vs=>k ((off,sz,v)::vs)
theorem Ref.nU: ∀ {ps:List (Nat×Nat×ba)} {k:List (Nat×Nat×V)->bI} {a:List (Nat×Nat×V)->Act},(∀v,Ref (k v) (a v))->Ref (AW ps k) (AM.nU ps a)
 | [],_,_,h=>h _
 | (_,_,_)::_,_,_,h=>Ref.ev fun v=>Ref.nU fun vs=>h _
def mO:List V->List (Nat×Nat×V)->Option (List V)
 | cs,[]=>some cs
 | cs,(off,sz,v)::rest=>bif oN v sz &&jz cs (off+sz) then mO (match v with
    | .agg vs=>takeN cs off++(vs++tV cs (off+sz))
    | v=>Fe cs off v) rest else none
theorem tX: ∀ {ps:List (Nat×Nat×V)} {cs a:List V},mO cs ps=some a->kq cs ps=some a
 | [],cs,a,h=>h
 | (off,sz,v)::rest,cs,a,h=>by
   simp only[mO] at h;cases hb: (oN v sz &&jz cs (off+sz)) with
   | false=>simp[hb] at h
   | true=>
     simp only[hb,cond_true] at h;simp only[ajt] at hb;have h1:=pk hb.1;have h2:=pj hb.2;simp only[bj,ajt,beq_iff_eq] at h1;simp only[kq];rw[if_pos ⟨h1.1,h2,h1.2⟩];have b:=tX h;rw[<-b];congr 1
     split
     .rename_i vs;simp[V.cells,vJ,vK]
     rename_i hn;have h3:v.cells=[v]:=by cases v<;>simp_all[V.cells]
     have h4:sz=1:=by rw[h3] at h1;simpa using h1.1.symm
     subst h4;rw[Ad,h3];simp[List.set_eq_take_append_cons_drop,show off<cs.length by omega]
def AX:List (Nat×ba)->(List (Nat×V)->bI)->bI
 | [],k=>k []
 | (i,x)::ps,k=>iK x fun v=>C2 v fun v=>AX ps fun vs=>k ((i,v)::vs)
theorem Ref.kP: ∀ {ps:List (Nat×ba)} {k:List (Nat×V)->bI} {a:List (Nat×V)->Act},(∀v,Ref (k v) (a v))->Ref (AX ps k) (AM.kP ps a)
 | [],_,_,h=>h _
 | (_,_)::_,_,_,h=>Ref.ev fun v=>Ref.DJ fun v'=>Ref.kP fun vs=>h _
def vN (sz:Nat):Nat->List (Nat×V)->Option (List V)
 | _,[]=>some []
 | i,(j,v)::rest=>bif Nat.beq i j &&oN v sz then(match vN sz (i+1) rest with| some vs=>some (v::vs) | none=>none) else none
def mP (sz:Nat):List V->List (Nat×V)->Option (List V)
 | es,[]=>some es
 | es,(i,v)::rest=>bif jz es (i+1) &&oN v sz then mP sz (Fe es i v) rest else none
theorem tY {sz:Nat}: ∀ {ps:List (Nat×V)} {es a:List V},mP sz es ps=some a->eD sz es ps=some a
 | [],cs,a,h=>h
 | (i,v)::rest,es,a,h=>by
   simp only[mP] at h;cases hb: (jz es (i+1) &&oN v sz) with
   | false=>simp[hb] at h
   | true=>
     simp only[hb,cond_true] at h;simp only[ajt] at hb;have h1:=pk hb.2;have h2:=pj hb.1;simp only[eD];rw[if_pos ⟨ajk,h1⟩,<-Ad];exact tY h
theorem AY {sz:Nat}: ∀ {ps:List (Nat×V)} {i:Nat} {vs pre es:List V},vN sz i ps=some vs->pre.length=i->es.length=ps.length->eD sz (pre++es) ps=some (pre++vs)
 | [],i,vs,pre,es,h,hp,he=>by
   simp only[vN,ajq] at h;subst h;have:es=[]:=by simpa using he
   simp[eD,this]
 | (j,v)::rest,i,vs,pre,es,h,hp,he=>by
   simp only[vN] at h;cases hb: (Nat.beq i j &&oN v sz) with
   | false=>simp[hb] at h
   | true=>
     simp only[hb,cond_true] at h;simp only[ajt] at hb;have h1:=pk hb.2;have h2:i=j:=aj5 hb.1;subst h2;split at h
     .rename_i vs' hv;simp only[ajq] at h;subst h;cases es with
      | nil=>simp at he
      | cons e es=>
        simp only[eD];rw[if_pos ⟨by simp;omega,h1⟩];have: (pre++e::es).set i v=(pre++[v])++es:=by simp[List.set_append,hp]
        rw[this,AY hv (by simp[hp]) (by simpa using he)];simp
     simp at h
def vO (sz:Nat) (x:V) (k:List V->bI):bI:=
 match x with
 | .nils=>k []
 | .lit sz' xs=>bif Nat.beq sz' sz then k xs else .fail
 | .sl r g off len=> .bV r fun ⟨c,d,f,h,e⟩=>match e with
   | some es=> .ex (List V) (fun a=>aN es off len=a) fun a=> .cb (c=g/\d=sz/\off+len<=es.length) (k a)
   | none=> .fail
 | .str s=>bif Nat.beq sz 1 then k (s.map fun b=> .int .u8 b.toNat) else .fail
 | _=> .fail
theorem Ref.content {sz:Nat} {x:V} {k:List V->bI} {a:List V->Act} (h: ∀v,Ref (k v) (a v)):Ref (vO sz x k) (AM.content sz x a):=by
 unfold vO AM.content;cases x
 case nils=>exact h _
 case lit sz' xs=>
  cases hb:Nat.beq sz' sz with
  | true=>obtain rfl:=aj5 hb;simp only[if_true,hb,cond_true];exact h _
  | false=>simp only[hb,cond_false];trivial
 case str s=>
  cases hb:Nat.beq sz 1 with
  | true=>obtain rfl:=aj5 hb;simp only[if_true,hb,cond_true];exact h _
  | false=>simp only[hb,cond_false];trivial
 case sl r g off len=>
  refine⟨_,rfl,fun ⟨gen,sz,arr,fz,es⟩=> ?_⟩;cases es with
  | none=>trivial
  | some es=>
    rintro b rfl hc
    try simp only at hc
    simp only[hc,and_self,if_true];exact h _
 all_goals trivial
def Fh ( r sz lim:Nat) (s:V) (ys:List V):bI:=
 .cb (ys.all (bj · sz)=true) <| bif Nat.ble 1 sz then
 match s with
 | .nils=>match ys with
   | [y]=> .cb (1<=lim) (.vI r fun g=> .bS r {gen:=g,sz,arr:=true,fz:=false,es:=some [y]} (.done (.sl r g 0 1)))
   | ys=> .ite ys.isEmpty (.done .nils) (.cb (ys.length<=lim) (.vI r fun g=> .bS r {gen:=g,sz,arr:=true,fz:=false,es:=some ys} (.done (.sl r g 0 ys.length))))
 | .lit sz' xs=> .cb (ys=[]) (.done (.lit sz' xs))
 | .sl r' g off len=> .bV r' fun ⟨d,a,b,c,f⟩=>match f with
   | some es=> .cb (d=g/\b=true/\c=false/\a=sz) <| .alt
      (.cb (off=0/\es.length=len/\len+ys.length<=lim) (.all fun e=> .bS r' {gen:=e,sz,arr:=true,fz:=false,es:=some (es++ys)} (.done (.sl r' e 0 (len+ys.length)))))
      (.cb (off+len<=es.length/\len+ys.length<=lim) (.ite (decide (off+len+ys.length<=es.length))
        (.bS r' ⟨d,a,b,c,some (overwrite es (off+len) ys)⟩ (.done (.sl r' g off (len+ys.length))))
        (.bS r' ⟨g+1,a,b,c,some (aN es off len++ys)⟩ (.done (.sl r' (g+1) 0 (len+ys.length))))))
   | none=> .fail
 | _=> .fail
 else .fail
theorem Ref.append {r sz lim:Nat} {s:V} {ys:List V}:Ref (Fh r sz lim s ys) (JX r sz lim s ys):=by
 intro hy;cases hb:Nat.ble 1 sz with
 | false=>simp only[cond_false];trivial
 | true=>
   have hs:0 <sz:=ak4 hb;have hg: (ys.all (bj · sz) &&decide (0 <sz))=true:=by simp only[ajt,decide_eq_true_eq];exact⟨hy,hs⟩
   simp only[cond_true,JX,hg,if_true];cases s
   case nils=>
    simp only;split
    . rename_i y
      intro hl;simp only[List.isEmpty_cons,ajA,if_false,ajC,ajJ,akg,hl,if_true];exact⟨_,rfl,fun o=> ⟨_,rfl,rfl⟩⟩
    refine⟨fun he=> ?_,fun he=> ?_⟩
    .simp only[he,if_true];exact rfl
    intro hl;simp only[he,ajA,if_false,hl,if_true];exact⟨_,rfl,fun o=> ⟨_,rfl,rfl⟩⟩
   case lit sz' xs=>
    intro he;simp only[he,List.isEmpty_nil,if_true];exact rfl
   case sl r' g off len=>
    refine⟨_,rfl,fun ⟨gen,sz',arr,fz,es⟩=> ?_⟩;cases es with
    | none=>trivial
    | some es=>
      intro hc;obtain⟨rfl,rfl,rfl,rfl⟩:=hc;refine⟨?_,?_⟩
      .  rintro⟨rfl,rfl,hl⟩
         simp only[akg,ajw,hl,and_self,if_true];by_cases hn:ys=[]
         .subst hn;refine⟨gen,?_⟩;simp only[akY,ajJ,akQ,ajw,if_true,overwrite,akd,List.drop_length];exact⟨_,rfl,rfl⟩
         have hp:0 <ys.length:=List.length_pos_iff.2 hn;refine⟨gen+1,?_⟩;rw[if_neg ajk];simp only[aN,List.drop_zero,akd];exact⟨_,rfl,rfl⟩
      rintro⟨h1,h2⟩;simp only[h1,h2,and_self,if_true];refine⟨fun hd=> ?_,fun hd=> ?_⟩
      .simp only[decide_eq_true_eq] at hd;rw[if_pos hd];exact⟨_,rfl,rfl⟩
      simp only[decide_eq_false_iff_not] at hd;rw[if_neg hd];exact⟨_,rfl,rfl⟩
   all_goals trivial
def YM (op:BinOp) (x y:V):bI:=
 match x,y with
 | .int k a,.int c b=>
   match op with
   | .shl=> .cb (0<=b) (.done (.int k (k.wrap (a*2 ^ (min b.toNat k.bits)))))
   | .shr=> .cb (0<=b) (.done (.int k (a.fdiv (2 ^ (min b.toNat k.bits)))))
   | .quo=> .cb (k=c/\b≠0) (.done (.int k (k.wrap (a.tdiv b))))
   | .rem=> .cb (k=c/\b≠0) (.done (.int k (a.tmod b)))
   | .and=> .cb (k=c) (mL (nV .and k a b))
   | .or=> .cb (k=c) (mL (nV .or k a b))
   | .xor=> .cb (k=c) (mL (nV .xor k a b))
   | .andNot=> .cb (k=c) (mL (nV .andNot k a b))
   | .add=>bif decide (k=c) then .done (.int k (k.wrap (a+b))) else .fail
   | .sub=>bif decide (k=c) then .done (.int k (k.wrap (a - b))) else .fail
   | .mul=>bif decide (k=c) then .done (.int k (k.wrap (a*b))) else .fail
   | .eql=>bif decide (k=c) then .done (.bool (decide (a=b))) else .fail
   | .neq=>bif decide (k=c) then .done (.bool (!decide (a=b))) else .fail
   | .lss=>bif decide (k=c) then .done (.bool (decide (a<b))) else .fail
   | .leq=>bif decide (k=c) then .done (.bool (decide (a<=b))) else .fail
   | .gtr=>bif decide (k=c) then .done (.bool (decide (b<a))) else .fail
   | .geq=>bif decide (k=c) then .done (.bool (decide (b<=a))) else .fail
 | .str a,.str b=>
   match op with
   | .add=> .cb (a.length+b.length<=9223372036854775807) (.done (.str (a++b)))
   | .eql=> .done (.bool (decide (a=b)))
   | .neq=> .done (.bool (!decide (a=b)))
   | .lss=> .done (.bool (Op.bytesLess a b))
   | .leq=> .done (.bool (Op.bytesLess a b || decide (a=b)))
   | .gtr=> .done (.bool (!(Op.bytesLess a b || decide (a=b))))
   | .geq=> .done (.bool (!Op.bytesLess a b))
   | _=> .fail
 | _,_=> .fail
theorem Ref.Vu {b:Bool} {x:bI} {a:Act} (h:b=true->Ref x a):Ref (bif b then x else .fail) a:=by
 cases b with
 | true=>simpa using h rfl
 | false=>trivial
theorem Ref.bin {op:BinOp} {x y:V}:Ref (YM op x y) (AM.fi (uM op x y)):=by
 unfold YM;split
 .rename_i k a c b;split
  case h_1=>intro h;simp[uM,show ¬b< 0 by omega,AM.fi,Ref]
  case h_2=>intro h;simp[uM,show ¬b< 0 by omega,AM.fi,Ref]
  case h_3=>intro h;simp[uM,h.1,h.2,AM.fi,Ref]
  case h_4=>intro h;simp[uM,h.1,h.2,AM.fi,Ref]
  case h_5=>intro h;simp only[uM,h,if_true];exact Ref.iL
  case h_6=>intro h;simp only[uM,h,if_true];exact Ref.iL
  case h_7=>intro h;simp only[uM,h,if_true];exact Ref.iL
  case h_8=>intro h;simp only[uM,h,if_true];exact Ref.iL
  all_goals exact Ref.Vu fun h=>by simp only[decide_eq_true_eq] at h;simp[uM,h,AM.fi,Ref,J5,Ac,bne]
 .rename_i a b;split
  case h_1=>intro h;simp[uM,h,AM.fi,Ref]
  case h_8=>trivial
  all_goals simp[uM,AM.fi,Ref]
 trivial
def YN (neg:Bool) (a b:V):bI:=
 match a,b with
 | .nilp,.nilp=> .done (.bool (true !=neg))
 | .nilp,.eptr .. | .nilp,.epk .. | .eptr ..,.nilp| .epk ..,.nilp=> .done (.bool (false !=neg))
 | .epk i z _ 0,.epk c z' _ 0=> .cb (z=z'/\0 <z) (.done (.bool ((i==c) !=neg)))
 | _,_=> .fail
theorem Ref.YO {neg:Bool} {a b:V}:Ref (YN neg a b) (AM.fi ((Mm a b).map fun c=> .bool (c !=neg))):=by
 unfold YN;split;all_goals first| exact rfl| trivial| skip
 intro h;obtain⟨rfl,d⟩:=h;simp only[Mm,d,and_self,if_true,ajE];exact rfl
def YP (sz:Nat) (v i:V):bI:=
 match v,i with
 | .sl r g off len,.int _ n=> .bV r fun ⟨a,b,c,d,f⟩=> .cb (0<=n/\n<len/\b=sz/\a=g) (match off with
   | 0=> .done (.ptr r g n.toNat 0)
   | off=> .done (.ptr r g (off+n.toNat) 0))
 | .lit sz' xs,.int _ n=> .cb (0<=n/\sz'=sz) (.ex V (fun e=>xs[n.toNat]? =some e) fun e=> .done (.eptr e 0))
 | .litk sz' xs,.int _ n=> .cb (0<=n/\sz'=sz/\0 <sz) (.ex V (fun e=>xs[n.toNat]? =some e) fun e=> .done (.epk n.toNat sz e 0))
 | _,_=> .fail
theorem Ref.idx {sz:Nat} {v i:V}:Ref (YP sz v i) (Fa sz v i):=by
 unfold YP;split
 .refine⟨_,rfl,fun ⟨gen,sz',arr,fz,es⟩=> ?_⟩;intro h
  try simp only at h
  simp only[h,and_self,if_true];split
  .simp[Ref]
  exact rfl
 .intro h e he;simp only[Fa,h,and_self,if_true,he];exact rfl
 .intro h e he;obtain⟨h1,rfl,h3⟩:=h;simp only[Fa,h1,h3,and_self,if_true,he];exact rfl
 trivial
def YQ (sz:Nat) (v:V) (l h m:Option V):bI:=
 match m with
 | some mx=> (match v,h with
   | .sl r g off len,some hv=> .bV r fun ⟨a,b,e,f,c⟩=>match c with
     | some es=> .cb (a=g/\b=sz) <| AV 0 l fun l=>AV len (some hv) fun h=>AV 0 (some mx) fun m=> .cb (l<=h/\h<=m/\off+m<=es.length/\m≠l) (.done .any)
     | none=> .fail
   | _,_=> .fail)
 | none=>match v with
   | .sl r g off len=> .bV r fun ⟨a,b,e,f,c⟩=>match c with
     | some es=> .cb (a=g/\b=sz) <| AV 0 l fun l=>AV len h fun h=> .cb (l<=h/\off+h<=es.length) (.done (.sl r g (off+l) (h - l)))
     | none=> .fail
   | .lit sz' xs=> .cb (sz'=sz) <| AV 0 l fun l=>AV xs.length h fun h=> .cb (l<=h/\h<=xs.length) (.ex (List V) (fun d=>aN xs l (h - l)=d) fun d=> .done (.lit sz d))
   | .nils=>AV 0 l fun l=>AV 0 h fun h=> .cb (l<=h/\h<=0) (.done .nils)
   | _=> .fail
theorem Ref.slc {sz:Nat} {v:V} {l h m:Option V}:Ref (YQ sz v l h m) (Fb sz v l h m):=by
 unfold YQ;split
 .split
  .rename_i mx _ _ r g off len hv;refine⟨_,rfl,fun ⟨gen,sz',arr,fz,es⟩=> ?_⟩;cases es with
   | none=>trivial
   | some es=>
     intro hc
     try simp only at hc
     simp only[hc,and_self,if_true];refine Ref.Vt fun b hl=>Ref.Vt fun c hh=>Ref.Vt fun m' hm=> ?_;intro a;simp only[hl,hh,hm,a,and_self,if_true,if_false];exact rfl
  trivial
 split
 .rename_i r g off len;refine⟨_,rfl,fun ⟨gen,sz',arr,fz,es⟩=> ?_⟩;cases es with
  | none=>trivial
  | some es=>
    intro hc
    try simp only at hc
    simp only[hc,and_self,if_true];refine Ref.Vt fun b hl=>Ref.Vt fun c hh=> ?_;intro a;simp only[hl,hh,a,and_self,if_true];exact rfl
 .rename_i sz' xs;intro hc;refine Ref.Vt fun b hl=>Ref.Vt fun c hh=> ?_;rintro a d rfl;simp only[Fb,AL,hc,if_true,hl,hh,a,and_self,AM.fi];exact rfl
 .refine Ref.Vt fun b hl=>Ref.Vt fun c hh=> ?_;intro a;have h1:cY 0 none=some 0:=rfl;simp only[Fb,AL,hl,hh,h1,a.1,a.2,Option.isNone_none,AM.fi,ajw,and_self,or_true,if_true];exact rfl
 trivial
def AZ (agg:Bool) (sz r g idx off:Nat) (v:V):bI:=
 .bV r fun ⟨a,d,b,c,f⟩=>match f with
  | some es=> .cb (a=g/\c=false) <| (match b with
    | true=> .ex V (fun e=>es[idx]? =some e) fun e=>QD agg off sz e v fun e'=> .bS r ⟨a,d,b,c,some (es.set idx e')⟩ (.done (.tuple []))
    | false=>match es,idx with
      | [e],0=>QD agg off sz e v fun e'=> .bS r ⟨a,d,b,c,some [e']⟩ (.done (.tuple []))
      | es,idx=> .ex V (fun e=>es[idx]? =some e) fun e=>QD agg off sz e v fun e'=> .bS r ⟨a,d,b,c,some (es.set idx e')⟩ (.done (.tuple [])))
  | none=> .fail
theorem Ref.mQ {agg:Bool} {sz r g idx off:Nat} {v:V}:Ref (AZ agg sz r g idx off v) (aQ.mQ agg sz r g idx off v):=by
 unfold AZ aQ.mQ;simp only[Vr];refine⟨_,rfl,fun ⟨gen,sz',arr,fz,es⟩=> ?_⟩;cases es with
 | none=>trivial
 | some es=>
   intro hc
   try simp only at hc
   simp only[hc,and_self,if_true];have NI:Ref (.ex V (fun e=>es[idx]? =some e) fun e=>match kZ agg off sz e v with
      | some e'=> .bS r ⟨gen,sz',arr,fz,some (es.set idx e')⟩ (.done (.tuple []))
      | none=> .fail) (match es[idx]? with
        | some e=>match lW agg off sz e v with
          | some e'=> .bS r {gen:=gen,sz:=sz',arr:=arr,fz:=fz,es:=some (es.set idx e')} (.done (.tuple []))
          | none=> .fail
        | none=> .fail):=by
     intro e he;simp only[he];cases hp:kZ agg off sz e v with
     | none=>trivial
     | some e'=>simp only[yX hp];exact⟨_,rfl,rfl⟩
   rw[hc.1,hc.2] at NI;cases arr with
   | true=>exact NI
   | false=>
     simp only;split
     .rename_i e;simp only[akF];cases hp:kZ agg off sz e v with
      | none=>trivial
      | some e'=>simp only[yX hp];exact⟨_,rfl,rfl⟩
     exact NI
def op2 (E:Env):vH->bI
 | .move x=>iK x .done
 | .pick c a b=>iK c fun| .bool c=> .ite c (iK a .done) (iK b .done) | _=> .fail
 | .new r sz x=>iK x fun v=>bif oN v sz &&Nat.ble 1 sz then .vI r fun g=> .bS r {gen:=g,sz,arr:=false,fz:=false,es:=some [v]} (.done (.ptr r g 0 0)) else .fail
 | .build cells parts=>AW parts fun ps=>match mO cells ps with
   | some cs=>force cs fun cs=> .done (.agg cs)
   | none=> .fail
 | .buildSlice r sz zero n parts=>AX parts fun ps=>bif oN zero sz &&Nat.ble 1 sz &&Nat.ble (n*sz) 16777216 then(match (bif jb ps n then vN sz 0 ps else none) with
   | some es=> .vI r fun g=> .bS r {gen:=g,sz,arr:=true,fz:=false,es:=some es} (.done (.sl r g 0 n))
   | none=>match mP sz (List.replicate n zero) ps with
     | some es=> .vI r fun g=> .bS r {gen:=g,sz,arr:=true,fz:=false,es:=some es} (.done (.sl r g 0 n))
     | none=> .fail) else .fail
 | .vQ r sz=>bif Nat.ble 1 sz then .vI r fun g=> .bS r {gen:=g,sz,arr:=true,fz:=false,es:=some []} (.done (.sl r g 0 0)) else .fail
 | .ren r x=>iK x fun
   | .sl r1 g off len=>bif Nat.beq r1 r then .done (.sl r1 g off len) else .bV r1 fun ⟨d,t,B,u,A⟩=> .cb (d=g) (.vI r fun D=>
       .bS r ⟨D,t,B,u,A⟩ (.bS r1 ⟨d+1,t,B,u,none⟩ (.done (.sl r D off len))))
   | v=> .done v
 | .load agg sz x=>iK x fun
   | .ptr r g idx off=> .bV r fun ⟨d,t,B,u,A⟩=>match A with
     | some es=> .cb (d=g) (match B with
       | true=> .ex V (fun e=>es[idx]? =some e) fun e=>re agg off sz e
       |  false=>match es,idx with
          | [e],0=>re agg off sz e
          | es,idx=> .ex V (fun e=>es[idx]? =some e) fun e=>re agg off sz e)
     | none=> .fail
   | .eptr e off=>re agg off sz e
   | .epk _ _ e off=>re agg off sz e
   | _=> .fail
 | .store agg sz x v=>iK x fun
   | .ptr r g idx off=> .bV r fun ⟨d,t,B,u,A⟩=>match B with
     | true=>iK v fun v=>C2 v fun v=>AZ agg sz r g idx off v
     | false=>iK v fun v=>AZ agg sz r g idx off v
   | _=> .fail
 | .nilCheck x=>iK x fun
   | .ptr r g idx off=> .done (.ptr r g idx off)
   | .eptr e off=> .done (.eptr e off)
   | .epk i z e off=> .done (.epk i z e off)
   | .fn f caps=> .done (.fn f caps)
   | .bfn f caps=> .done (.bfn f caps)
   | _=> .fail
 | .bin op x y=>iK x fun a=>iK y fun b=>YM op a b
 | .eqA neg ks x y=>iK x fun a=>iK y fun b=>match a,b with
   | .agg aL,.agg G=>match df ks aL G with
       | some b=> .done (.bool (b !=neg))
       | none=> .fail
   | _,_=> .fail
 | .un op x=>iK x fun a=>mL (unV op a)
 | .vS k x=>iK x fun| .int _ n=> .done (.int k (k.wrap n)) | _=> .fail
 | .A0 x=>iK x fun| .int _ n=> .done (.float (FloatKind.f64.nearest n)) | _=> .fail
 | .A3 k x=>iK x fun
   | .float b=> .ex Int (fun n=> (FloatKind.f64.decode b).toInt .zero=some n/\k.min<=n/\n<=k.max) fun n=> .done (.int k n)
   | _=> .fail
 | .A4 f caps=>Hi caps fun vs=> .done (.fn f vs)
 | .slice sz x lo hi mx=>iK x fun v=>Vs lo fun l=>Vs hi fun h=>Vs mx fun m=>YQ sz v l h m
 | .fieldAddr off x=>iK x fun
   | .ptr r g idx o=> .done (.ptr r g idx (o+off))
   | .eptr e o=> .done (.eptr e (o+off))
   | .epk i z e o=> .done (.epk i z e (o+off))
   | _=> .fail
 | .indexAddr sz x i=>iK x fun v=>iK i fun i=>YP sz v i
 | .rf n sz x i=>iK x fun v=>iK i fun i=>match v,i with
   | .ptr r g idx off,.int _ j=> .cb (0<=j/\j<n) (.done (.ptr r g idx (off+j.toNat*sz)))
   | .eptr e off,.int _ j=> .cb (0<=j/\j<n) (.done (.eptr e (off+j.toNat*sz)))
   | _,_=> .fail
 | .rj x i=>iK x fun v=>iK i fun i=>match v,i with
   | .str s,.int _ n=> .cb (0<=n) (.ex UInt8 (fun b=>s[n.toNat]? =some b) fun b=> .done (.int .u8 b.toNat))
   | _,_=> .fail
 | .len x=>iK x fun v=>mL (Vp v)
 | .A5 x=>iK x fun| .str s=> .done (.int .i64 s.length) | _=> .fail
 | .min xs=>Hi xs fun vs=>mL (qJ min2 vs)
 | .max xs=>Hi xs fun vs=>mL (qJ max2 vs)
 | .append r sz lim s x=>iK s fun s=>iK x fun x=>vO sz x fun C=>Ml C fun C=>Fh r sz lim s C
 | .clear sz zero x=>iK x fun
   | .nils=> .done (.tuple [])
   | .sl r g off len=> .bV r fun ⟨d,t,B,u,A⟩=>match A with
     | some es=> .cb (d=g/\B=true/\u=false/\t=sz/\off+len<=es.length/\bj zero sz=true)
          (.bS r ⟨d,t,B,u,some (overwrite es off (List.replicate len zero))⟩ (.done (.tuple [])))
     | none=> .fail
   | _=> .fail
 | .extract x i=>iK x fun
   | .tuple vs=>mL (nth vs i)
   | _=> .fail
 | .call r bG f args=>iK f fun
   | .fn f caps=>Hi args fun aL=>bif Nat.beq (r % 16) 4 then .esc (AM.mN E r bG f (aL++caps)) else lY E r bG f (aL++caps)
   | .bfn f first=>Hi args fun aL=>match Fi first,E.Fc f with
     | some (r',g),some h=> .bV r' fun ⟨d,t,B,u,A⟩=>match A with
       | some es=> .cb (d=g/\t=0/\u=false/\V.bz aL=true/\es.all V.isTuple=true) (.ex (V×List V) (fun p=>h es aL=some p) fun p=> .bS r' ⟨d,t,B,u,some p.2⟩ (.done p.1))
       | none=> .fail
     | _,_=>lY E r bG f (first++aL)
   | _=> .fail
 | .deep x=>iK x fun v=> .esc (vT v)
 | .DK ks agg sz x=>iK x fun
   | .ptr r g idx off=> .bV r fun ⟨d,t,B,u,A⟩=>match A with
     | some es=> .cb (d=g) (match es,idx with
       | [e],0=>mL ((AS agg off sz e).map (JJ ks))
       | _,_=> .fail)
     | none=> .fail
   | _=> .fail
 | .mkMap r=> .vI r fun g=> .bS r {gen:=g,sz:=0,arr:=false,fz:=false,es:=some []} (.done (.mp r g))
 | .xQ q x k v=>iK x fun
   | .mp r g=>iK k fun k=>iK v fun v=>C2 v fun v=> .bV r fun ⟨d,t,B,u,A⟩=>match A with
     | some es=> .cb (d=g/\t=0/\u=false/\isKey q k=true/\v.dw=true) (.ex (List V) (fun es'=>jt k v es=some es') fun es'=>
          .bS r ⟨d,t,B,u,some es'⟩ (.done (.tuple [])))
     | none=> .fail
   | _=> .fail
 | .A6 q ok zero x k=>iK x fun x=>iK k fun k=> .cb (isKey q k=true) (match x with
   | .mp r g=> .bV r fun ⟨d,t,B,u,A⟩=>match A with
     | some es=> .cb (d=g/\t=0) (.ex V (fun v=>cZ ok zero es k= .done v) fun v=> .done v)
     | none=> .fail
   | .mlit es=> .ex V (fun v=>cZ ok zero es k= .done v) fun v=> .done v
   | _=> .fail)
 | .sR ks x k v=>iK x fun
   | .mp r g=>iK k fun k=>iK v fun v=>C2 v fun v=> .bV r fun ⟨d,t,B,u,A⟩=>match A with
     | some es=> .cb (d=g/\t=0/\u=false/\(dj ks k k).isSome=true/\v.dw=true) (.ex (List V) (fun es'=>ef ks k v es=some es') fun es'=>
          .bS r ⟨d,t,B,u,some es'⟩ (.done (.tuple [])))
     | none=> .fail
   | _=> .fail
 | .sS ks ok zero x k=>iK x fun x=>iK k fun k=> .cb ((dj ks k k).isSome=true) (match x with
   | .mp r g=> .bV r fun ⟨d,t,B,u,A⟩=>match A with
     | some es=> .cb (d=g/\t=0) (.ex V (fun v=>dC ks ok zero es k= .done v) fun v=> .done v)
     | none=> .fail
   | .mlit es=> .ex V (fun v=>dC ks ok zero es k= .done v) fun v=> .done v
   | _=> .fail)
 | .lZ ks x k=>iK x fun
   | .mp r g=>iK k fun k=> .bV r fun ⟨d,t,B,u,A⟩=>match A with
     | some es=> .cb (d=g/\t=0/\C3 ks k=true/\es.all (Hj ks)=true) (.done (ei ks k es))
     | none=> .fail
   | _=> .fail
 | .mc ks x k=>iK x fun
   | .mp r g=>iK k fun k=> .bV r fun ⟨d,t,B,u,A⟩=>match A with
     | some es=> .cb (d=g/\t=0/\u=false/\C3 ks k=true/\es.all (Hj ks)=true) (.ex (V×List V) (fun p=>match dB ks k 0 es with
           | some (some (j,v))=>p=(.tuple [v,.int .i64 j],es)
           | some none=>p=(.tuple [.int .i64 0,.int .i64 es.length],es++[.tuple [k,.int .i64 0]])
           | none=>False) fun p=> .bS r ⟨d,t,B,u,some p.2⟩ (.done p.1))
     | none=> .fail
   | _=> .fail
 | .A7 agg sz x v=>iK x fun
   | .ptr r g idx off=>iK v fun v=>AZ agg sz r g idx off v
   | _=> .fail
 | .vU .. => .fail
 | .vV x s v=>iK x fun
   | .mp r g=>iK s fun
     | .int .i64 j=>iK v fun v=>C2 v fun v=> .bV r fun ⟨d,t,B,u,A⟩=>match A with
       | some es=> .cb (d=g/\t=0/\u=false/\v.dw=true/\0<=j) (.ex (List V) (fun es'=> ∃F w,es[j.toNat]? =some (.tuple [F,w])/\es'=es.set j.toNat (.tuple [F,v])) fun es'=> .bS r ⟨d,t,B,u,some es'⟩ (.done (.tuple [])))
       | none=> .fail
     | _=> .fail
   | _=> .fail
 | .vW i r sz lim s x=>iK (.tmp i) fun
   | .int _ j=>iK s fun s=>iK x fun x=>vO sz x fun C=>Ml C fun C=>Fh (r+16*j.toNat) sz lim s C
   | _=> .fail
 | .QE x=>iK x fun v=> (match v with
   | .fn .. =>gU 5 v fun v' rs=>qb rs (.done v')
   | _=>C2 v .done)
 | .YO neg x y=>iK x fun a=>iK y fun b=>YN neg a b
 | .mapIter r x=>iK x fun
   | .mlit es=> .vI r fun g=> .bS r {gen:=g,sz:=0,arr:=false,fz:=false,es:=some [.mlit es]} (.done (.it r g))
   | _=> .fail
 | .vX f xs=>Hi xs fun vs=> .done (.bfn f vs)
 | .vY f caps=>AU caps fun vs=> .done (.fn f vs)
 | .bad=> .fail
theorem Ref.op {E:Env} {o:vH}:Ref (op2 E o) (aQ E o):=by
 cases o with
 | mkMap r=>exact⟨_,rfl,fun o=> ⟨_,rfl,rfl⟩⟩
 | QE x=>
   refine Ref.ev fun v=> ?_;cases v with
   | fn f caps=>exact Ref.iv fun v' rs=>Ref.eC rfl
   | _=>exact Ref.DJ fun v=>rfl
 | xQ q x k v=>
   refine Ref.ev fun x=> ?_;cases x<;>first| trivial| skip
   refine Ref.ev fun k=>Ref.ev fun v=>Ref.DJ fun v=> ⟨_,rfl,fun ⟨gen,sz,arr,fz,es⟩=> ?_⟩;cases es with
   | none=>trivial
   | some es=>
     rintro hc es' he;simp only[hc,he,and_self,if_true];exact⟨_,by simp[hc],rfl⟩
 | A6 q ok zero x k=>
   refine Ref.ev fun x=>Ref.ev fun k=> ?_;intro t;simp only[t,if_true];cases x<;>first| trivial| skip
   case mp r g=>
     refine⟨_,rfl,fun ⟨gen,sz,arr,fz,es⟩=> ?_⟩;cases es with
     | none=>trivial
     | some es=>
       rintro hc v hv;show (if gen=g/\sz=0 then cZ ok zero es k else Act.fail)= .done v;rw[if_pos hc];exact hv
   case mlit es=>
     rintro v hv;exact hv
 | sR ks x k v=>
   refine Ref.ev fun x=> ?_;cases x<;>first| trivial| skip
   refine Ref.ev fun k=>Ref.ev fun v=>Ref.DJ fun v=> ⟨_,rfl,fun ⟨gen,sz,arr,fz,es⟩=> ?_⟩;cases es with
   | none=>trivial
   | some es=>
     rintro hc es' he;simp only[hc,he,and_self,if_true];exact⟨_,by simp[hc],rfl⟩
 | sS ks ok zero x k=>
   refine Ref.ev fun x=>Ref.ev fun k=> ?_;intro t;simp only[t,if_true];cases x<;>first| trivial| skip
   case mp r g=>
     refine⟨_,rfl,fun ⟨gen,sz,arr,fz,es⟩=> ?_⟩;cases es with
     | none=>trivial
     | some es=>
       rintro hc v hv;show (if gen=g/\sz=0 then dC ks ok zero es k else Act.fail)= .done v;rw[if_pos hc];exact hv
   case mlit es=>
     rintro v hv;exact hv
 | lZ ks x k=>
   refine Ref.ev fun x=> ?_;cases x<;>first| trivial| skip
   refine Ref.ev fun k=> ⟨_,rfl,fun ⟨gen,sz,arr,fz,es⟩=> ?_⟩;cases es with
   | none=>trivial
   | some es=>
     rintro⟨c1,c2,c3,c4⟩;show J6 _ _ _ _=_;simp only[lN,ajE,J6,c4,c1,c2,c3,and_self,if_true]
 | mc ks x k=>
   refine Ref.ev fun x=> ?_;cases x<;>first| trivial| skip
   refine Ref.ev fun k=> ⟨_,rfl,fun ⟨gen,sz,arr,fz,es⟩=> ?_⟩;cases es with
   | none=>trivial
   | some es=>
     rintro hc ⟨u,es'⟩ he;simp only[hc,and_self,if_true]
     revert he
     cases dB ks k 0 es with
     | none=>exact fun he=>he.elim
     | some q=>
       cases q with
       | none=>intro he;simp only[ajv] at he;obtain⟨rfl,rfl⟩:=he;exact⟨_,by simp[hc],rfl⟩
       | some p=>intro he;obtain⟨j,w⟩:=p;simp only[ajv] at he;obtain⟨rfl,rfl⟩:=he;exact⟨_,by simp[hc],rfl⟩
 | A7 agg sz x v=>
   refine Ref.ev fun v=> ?_;cases v<;>first| trivial| skip
   exact Ref.ev fun v=>Ref.mQ
 | vU ks zero x k=>trivial
 | vV x s v=>
   refine Ref.ev fun x=> ?_;cases x<;>first| trivial| skip
   refine Ref.ev fun s=> ?_;cases s<;>first| trivial| skip
   rename_i C j;cases C<;>first| trivial| skip
   refine Ref.ev fun v=>Ref.DJ fun v=> ⟨_,rfl,fun ⟨gen,sz,arr,fz,es⟩=> ?_⟩;cases es with
   | none=>trivial
   | some es=>
     rintro hc es' ⟨F,w,he,rfl⟩;simp only[hc,he,and_self,if_true];exact⟨_,by simp[hc],rfl⟩
 | vW i r sz lim s x=>
   refine⟨_,rfl,fun v=> ?_⟩;cases v<;>first| trivial| skip
   exact Ref.ev fun s=>Ref.ev fun x=>Ref.content fun A=>Ref.oM fun A=>Ref.append
 | deep=>exact Ref.ev fun v=>rfl
 | DK ks agg sz x=>
   refine Ref.ev fun v=> ?_;cases v<;>first| trivial| skip
   case ptr r g idx off=>
     refine⟨_,rfl,fun ⟨gen,sz',arr,fz,es⟩=> ?_⟩;cases es with
     | none=>trivial
     | some es=>
       intro hc
       try simp only at hc
       simp only[hc,if_true];split
       . simp only[akF]
         exact Ref.fi fun v hv=>by obtain⟨v0,h0,rfl⟩:=ajr.1 hv;rw[pn h0];rfl
       trivial
 | move x=>exact Ref.ev fun v=>rfl
 | pick c a b=>
   refine Ref.ev fun v=> ?_;cases v
   case bool c=>cases c with
     | true=>exact⟨fun _=>Ref.ev (fun v=>rfl),fun h=> (by cases h)⟩
     | false=>exact⟨fun h=> (by cases h),fun _=>Ref.ev (fun v=>rfl)⟩
   all_goals trivial
 | new r sz x=>
   refine Ref.ev fun v=>Ref.Vu fun h=> ?_;simp only[ajt] at h;have h1:=pk h.1;have h2:0 <sz:=ak4 h.2;simp only[h1,h2,decide_true,akh,if_true];exact⟨_,rfl,fun o=> ⟨_,rfl,rfl⟩⟩
 | build cells parts=>
   refine Ref.nU fun ps=> ?_;cases hf:mO cells ps with
   | none=>trivial
   | some cs=>simp only[tX hf,force_eq];exact rfl
 | buildSlice r sz zero n parts=>
   refine Ref.kP fun ps=>Ref.Vu fun h=> ?_;simp only[ajt] at h;have h1:=pk h.1.1;have h2:0 <sz:=ak4 h.1.2;have h3:n*sz<=16777216:=ak4 h.2;split
   . rename_i es he
     have hl:jb ps n=true:=by
       cases hb:jb ps n with
       | true=>rfl
       | false=>simp[hb] at he
     simp only[hl,cond_true] at he;have h4:=AY (pre:=[]) (es:=List.replicate n zero) he rfl (by simp[pg hl]);simp only[aj8] at h4;simp only[h4,h1,h2,h3,and_self,decide_true,akh,if_true];exact⟨_,rfl,fun o=> ⟨_,rfl,rfl⟩⟩
   cases hf:mP sz (List.replicate n zero) ps with
   | none=>trivial
   | some es=>
     simp only[tY hf,h1,h2,h3,and_self,decide_true,akh,if_true];exact⟨_,rfl,fun o=> ⟨_,rfl,rfl⟩⟩
 | vQ r sz=>
   refine Ref.Vu fun h=> ?_;have h2:0 <sz:=ak4 h;simp only[aQ,h2,if_true];exact⟨_,rfl,fun o=> ⟨_,rfl,rfl⟩⟩
 | ren r x=>
   refine Ref.ev fun v=> ?_;cases v
   case sl r1 g off len=>
     cases hb:Nat.beq r1 r with
     | true=>
       obtain rfl:=aj5 hb;simp only[if_true,hb,cond_true];exact rfl
     | false=>
       have:r1≠r:=Nat.ne_of_beq_eq_false hb;simp only[hb,cond_false,this,if_false];refine⟨_,rfl,fun ⟨gen,sz',arr,fz,es⟩=> ?_⟩;intro hg;have B:gen=g:=hg;subst B;simp only[if_true];exact⟨_,rfl,fun o=> ⟨_,rfl,_,rfl,rfl⟩⟩
   all_goals exact rfl
 | load agg sz x=>
   refine Ref.ev fun v=> ?_;cases v<;>first| trivial| skip
   case ptr r g idx off=>
     refine⟨_,rfl,fun ⟨gen,sz',arr,fz,es⟩=> ?_⟩;cases es with
     | none=>trivial
     | some es=>
       intro hc
       try simp only at hc
       simp only[hc,if_true];have NI:Ref (.ex V (fun e=>es[idx]? =some e) fun e=>re agg off sz e) (match es[idx]? with
         | some e=>AM.fi (part agg off sz e)
         | none=> .fail):=by
         intro e he;simp only[he];rw[vL];exact Ref.fi fun v hv=>pn hv
       cases arr with
       | true=>exact NI
       | false=>
         simp only;split
         .rw[vL];exact Ref.fi fun v hv=>pn hv
         exact NI
   case eptr e off=>simp only[vL];exact Ref.fi fun v hv=>pn hv
   case epk i z e off=>simp only[vL];exact Ref.fi fun v hv=>pn hv
 | store agg sz x v=>
   refine Ref.ev fun v=> ?_;cases v<;>first| trivial| skip
   refine⟨_,rfl,fun ⟨gen,sz',arr,fz,es⟩=> ?_⟩;cases arr with
   | true=>exact Ref.ev fun v=>Ref.DJ fun v=>Ref.mQ
   | false=>exact Ref.ev fun v=>Ref.mQ
 | nilCheck x=>exact Ref.ev fun v=>by cases v<;>first| trivial| exact rfl
 | bin op x y=>exact Ref.ev fun a=>Ref.ev fun b=>Ref.bin
 | eqA neg ks x y=>
   refine Ref.ev fun a=>Ref.ev fun b=> ?_;cases a<;>first| trivial| skip
   cases b<;>first| trivial| skip
   rename_i aL D;simp only;cases df ks aL D with
   | none=>trivial
   | some b=>exact rfl
 | un op x=>exact Ref.ev fun a=>Ref.iL
 | vS k x=>exact Ref.ev fun v=>by cases v<;>first| trivial| exact rfl
 | A0 x=>exact Ref.ev fun v=>by cases v<;>first| trivial| exact rfl
 | A3 k x=>
   refine Ref.ev fun v=> ?_;cases v<;>first| trivial| skip
   rintro n ⟨h1,h2,h3⟩;simp only[h1,h2,h3,and_self,if_true];exact rfl
 | A4 f caps=>exact Ref.evs fun v=>rfl
 | slice sz x lo hi mx=>
   rw[NH];exact Ref.ev fun v=>Ref.P0 fun l=>Ref.P0 fun h=>Ref.P0 fun m=>Ref.slc
 | fieldAddr off x=>exact Ref.ev fun v=>by cases v<;>first| trivial| exact rfl
 | indexAddr sz x i=>
   rw[C0];exact Ref.ev fun v=>Ref.ev fun i=>Ref.idx
 | rf n sz x i=>
   refine Ref.ev fun v=>Ref.ev fun i=> ?_;cases v<;>first| trivial| skip
   all_goals
     cases i<;>first| trivial| skip
     intro h;simp only[h,and_self,if_true];exact rfl
 | rj x i=>
   refine Ref.ev fun v=>Ref.ev fun i=> ?_;cases v<;>first| trivial| skip
   cases i<;>first| trivial| skip
   intro h b hb;simp only[h,if_true,hb];exact rfl
 | len x=>exact Ref.ev fun v=>Ref.iL
 | A5 x=>exact Ref.ev fun v=>by cases v<;>first| trivial| exact rfl
 | min xs=>exact Ref.evs fun vs=>Ref.iL
 | max xs=>exact Ref.evs fun vs=>Ref.iL
 | append r sz lim s x=>
   rw[JY];exact Ref.ev fun s=>Ref.ev fun x=>Ref.content fun A=>Ref.oM fun A=>Ref.append
 | clear sz zero x=>
   refine Ref.ev fun d=> ?_;cases d<;>first| trivial| exact rfl| skip
   refine⟨_,rfl,fun ⟨gen,sz',arr,fz,es⟩=> ?_⟩;cases es with
   | none=>trivial
   | some es=>
     intro hc
     try simp only at hc
     simp only[hc,and_self,if_true];exact⟨_,by simp[hc],rfl⟩
 | extract x i=>
   refine Ref.ev fun v=> ?_;cases v<;>first| trivial| skip
   simp only[J4];exact Ref.iL
 | call r bG f args=>
   refine Ref.ev fun v=> ?_;cases v<;>first| trivial| skip
   case fn g caps=>
     refine Ref.evs fun aL=> ?_;cases hb:Nat.beq (r % 16) 4 with
     | true=>simp only[cond_true];exact rfl
     | false=>simp only[cond_false];exact Ref.mN
   case bfn g first=>
     refine Ref.evs fun aL=> ?_;cases Fi first with
     | none=>exact Ref.mN
     | some p=>
       obtain⟨r',G⟩:=p;cases E.Fc g with
       | none=>exact Ref.mN
       | some h=>
         refine⟨_,rfl,fun ⟨gen,sz,arr,fz,es⟩=> ?_⟩;cases es with
         | none=>trivial
         | some es=>
           rintro hc ⟨u,es'⟩ he;simp only[hc,he,and_self,if_true];exact⟨_,by simp[hc],rfl⟩
 | YO neg x y=>exact Ref.ev fun a=>Ref.ev fun b=>Ref.YO
 | mapIter r x=>
   refine Ref.ev fun v=> ?_;cases v<;>first| trivial| exact⟨_,rfl,fun o=> ⟨_,rfl,rfl⟩⟩
 | vX f xs=>exact Ref.evs fun vs=>rfl
 | vY f caps=>exact Ref.lX fun vs=>rfl
 | bad=>trivial
def Mn (E:Env) (o:bN):bI:=match o.guard with
 | none=>op2 E o.op
 | some (t,a)=> .pc t fun
   | .bool b=> (match a with
     | true=> .ite b (op2 E o.op) (.done ee)
     | false=> .ite b (.done ee) (op2 E o.op))
   | .tuple []=> .done ee
   | _=> .fail
theorem Ref.oper {E:Env} {o:bN}:Ref (Mn E o) (cX E o):=by
 unfold Mn cX;cases o.guard with
 | none=>exact Ref.op
 | some p=>
   obtain⟨t,a⟩:=p;refine⟨_,rfl,fun v=> ?_⟩;cases v<;>first| trivial| skip
   case bool b=>cases b<;>cases a<;>simp[Ref,Ref.op]
   case tuple vs=>cases vs with
    | nil=>exact rfl
    | cons=>trivial
def NJ (E:Env):List bN->SS->(SS->Prop)->Prop
 | [],S,Q=>Q S
 | o::os,S,Q=>fX E (Mn E o) S fun v S' _ _=>match S' with
   | ⟨T,O⟩=>match o.dst with
     | some d=>NJ E os ⟨(d,v)::T,O⟩ Q
     | none=>NJ E os ⟨T,O⟩ Q
def Hk (E:Env):List bN->SS->(List dU->SS->Prop)->Prop
 | [],S,Q=>Q [] S
 | o::os,S,Q=>fX E (Mn E o) S fun v S' r w=>match S' with
   | ⟨T,O⟩=>match o.dst with
     | some d=>Hk E os ⟨(d,v)::T,O⟩ fun fs YR=>Q (fA o.op ⟨r,.t d::w⟩::fs) YR
     | none=>Hk E os ⟨T,O⟩ fun fs YR=>Q (fA o.op ⟨r,w⟩::fs) YR
section
variable {E:Env}
theorem J7 {a:Act} {σ:St} {Q:V->St->Prop} (h:Ab E a σ fun v σ' _ _=>Q v σ'):JU E a σ Q:=by obtain⟨n,v,σ',h1,h2⟩:=h;exact⟨n,v,σ',h1,h2⟩
theorem uN: ∀ {os:List bN} {S:SS} {Q:SS->Prop} {σ:St},NJ E os S Q->S.On σ->XM E os σ fun σ'=> ∃S',S'.On σ'/\Q S'
 | [],S,Q,σ,h,b=>by rw[Vj];exact⟨S,b,h⟩
 | o::os,S,Q,σ,h,b=>by
   rw[Qo];refine J7 (pd (dm Ref.oper h b) ?_);rintro v σ' r w ⟨⟨T,O⟩,c,a⟩;have hp:=c.put o.dst v;cases hd:o.dst with
   | none=>simp only[hd] at a hp ⊢;exact uN a hp
   | some d=>simp only[hd] at a hp ⊢;exact uN a hp
theorem mR: ∀ {os:List bN} {S:SS} {Q:List dU->SS->Prop} {σ:St},Hk E os S Q->S.On σ->wpx E os σ fun fs σ'=> ∃S',S'.On σ'/\Q fs S'
 | [],S,Q,σ,h,b=>by rw[Vn];exact⟨S,b,h⟩
 | o::os,S,Q,σ,h,b=>by
   rw[Qx];refine pd (dm Ref.oper h b) ?_;rintro v σ' r w ⟨⟨T,O⟩,c,a⟩;have hp:=c.put o.dst v;cases hd:o.dst with
   | none=>simp only[hd] at a hp ⊢;exact mR a hp
   | some d=>simp only[hd] at a hp ⊢;exact mR a hp
def thenS (Q:aW->SS->Prop) (k:SS->Prop):aW->SS->Prop
 | .normal,S=>k S
 | .exit id,S=>Q (.exit id) S
 | .ret,S=>Q .ret S
def QF (id:Nat) (Q:aW->SS->Prop):aW->SS->Prop
 | .exit a,S=>bif Nat.beq a id then Q .normal S else Q (.exit a) S
 | .normal,S=>Q .normal S
 | .ret,S=>Q .ret S
structure aO (E:Env) (b:a8) (S:SS) (Q:aW->SS->Prop):Prop where
 h: ∀σ,S.On σ->o8 E (.loop b) σ fun e σ'=> ∃S',S'.On σ'/\Q e S'
structure Hl (E:Env) (it nx ne id:Nat) (kT kO:List Nat) (h0 b l:a8) (S:SS) (Q:aW->SS->Prop):Prop where
 h: ∀σ,S.On σ->o8 E (.keys it nx ne id kT kO h0 b l) σ fun e σ'=> ∃S',S'.On σ'/\Q e S'
structure rk (E:Env) (x:ba) (ps:List Nat) (a b:a8) (S:SS) (Q:aW->SS->Prop):Prop where
 h: ∀σ,S.On σ->o8 E (.pY x ps a b) σ fun e σ'=> ∃S',S'.On σ'/\Q e S'
def mf (E:Env):a8->SS->(aW->SS->Prop)->Prop
 | .skip,S,Q=>Q .normal S
 | .region ops,S,Q=>NJ E ops S (Q .normal)
 | .drawn ops,S,Q=>Hk E ops S fun fs S'=>pf (UX (ops.map (·.pre)) [] [] fs=true) (Q .normal S')
 | .seq a b,S,Q=>mf E a S (thenS Q fun S'=>mf E b S' Q)
 | .cond c a b,S,Q=>match c with
   | .tmp t=> (match lk S.T t with
     | some (.bool c)=>Br c (mf E a S Q) (mf E b S Q)
     | _=>False)
   | .const (.bool c)=>Br c (mf E a S Q) (mf E b S Q)
   | _=>False
 | .block id b,S,Q=>mf E b S (QF id Q)
 | .loop b,S,Q=>aO E b S Q
 | .exit id,S,Q=>Q (.exit id) S
 | .ret,S,Q=>Q .ret S
 | .scope b,S,Q=>mf E b S Q
 | .bad,_,_=>False
 | .pY x ps a b,S,Q=>rk E x ps a b S Q
 | .keys it nx ne id kT kO h0 b l,S,Q=>Hl E it nx ne id kT kO h0 b l S Q
theorem cO: ∀ {c:a8} {S:SS} {Q:aW->SS->Prop} {σ:St},mf E c S Q->S.On σ->o8 E c σ fun e σ'=> ∃S',S'.On σ'/\Q e S'
 | .skip,S,Q,σ,h,d=>by rw[AK];exact⟨S,d,h⟩
 | .region ops,S,Q,σ,h,d=>by rw[JV];exact uN h d
 | .drawn ops,S,Q,σ,h,d=>by
   refine vG ?_;have h1:=mR h d;refine jL h1 ?_;rintro fs σ' ⟨S',h2,h3,h4⟩;exact⟨h3,S',h2,h4⟩
 | .seq a b,S,Q,σ,h,d=>by
   rw[E9];refine gH (cO (c:=a) h d) ?_;rintro e σ' ⟨S',h1,h2⟩;cases e with
   | normal=>exact cO (c:=b) h2 h1
   | exit id=>exact⟨S',h1,h2⟩
   | ret=>exact⟨S',h1,h2⟩
 | .cond c a b,S,Q,σ,h,d=>by
   rw[Qv];simp only[mf] at h;cases c with
   | tmp t=>
     simp only at h;split at h
     . rename_i c hc
       rw[Hd,d.1 t _ hc];cases c with
       | true=>exact cO (c:=a) (h.1 rfl) d
       | false=>exact cO (c:=b) (h.2 rfl) d
     exact h.elim
   | const v=>
     cases v
     case bool c=>
       rw[CZ];cases c with
       | true=>exact cO (c:=a) (h.1 rfl) d
       | false=>exact cO (c:=b) (h.2 rfl) d
     all_goals exact h.elim
 | .block id b,S,Q,σ,h,d=>by
   rw[DD];refine gH (cO (c:=b) h d) ?_;rintro e σ' ⟨S',h1,h2⟩;cases e with
   | normal=>exact⟨S',h1,h2⟩
   | ret=>exact⟨S',h1,h2⟩
   | exit f=>
     simp only[QF] at h2;simp only[Mg];cases hb:Nat.beq f id with
     | true=>
       have:=aj5 hb;simp only[hb,cond_true] at h2;rw[if_pos this];exact⟨S',h1,h2⟩
     | false=>
       have:f≠id:=Nat.ne_of_beq_eq_false hb;simp only[hb,cond_false] at h2;rw[if_neg this];exact⟨S',h1,h2⟩
 | .loop b,S,Q,σ,h,d=>h.h σ d
 | .exit id,S,Q,σ,h,d=>by rw[Qu];exact⟨S,d,h⟩
 | .ret,S,Q,σ,h,d=>by rw[Vm];exact⟨S,d,h⟩
 | .scope b,S,Q,σ,h,d=>by rw[NF];exact cO (c:=b) h d
 | .pY ..,S,Q,σ,h,d=>h.h σ d
 | .keys ..,S,Q,σ,h,d=>h.h σ d
 | .bad,_,_,_,h,_=>h.elim
theorem ae3 {x:V}:aN [x] 0 1=[x]:=rfl
def zL {α:Type}:List (Nat×α)->List (Nat×α)->Prop
 | [],_=>True
 | p::l,m=> (match lk m p.1 with
   | some x=>x=p.2
   | none=>False)/\zL l m
def SS.Sub (S S':SS):Prop:=zL S.T S'.T/\zL S.O S'.O
theorem zL.lk {α:Type}: ∀ {l m:List (Nat×α)},zL l m-> ∀ {n x},lk l n=some x->lk m n=some x
 | [],_,_,n,x,h=>by simp[AM.lk] at h
 | p::l,m,h,n,x,hx=>by
   rw[fB] at hx;by_cases e:p.1=n
   .rw[if_pos e] at hx;injection hx with hx;have:=h.1;subst e;split at this
    .rename_i y hy;rw[hy,this,hx]
    exact this.elim
   rw[if_neg e] at hx;exact zL.lk h.2 hx
theorem SS.Sub.on {S S':SS} (h:S.Sub S') {σ:St} (a:S'.On σ):S.On σ:=
 ⟨fun t v hv=>a.1 t v (h.1.lk hv),fun r o hr=>a.2 r o (h.2.lk hr)⟩
def aa3 (Q:aW->SS->Prop) (I:Nat->SS->Prop) (k:Nat):aW->SS->Prop
 | .normal,S=> ∃j,j<k/\ ∃S',S'.Sub S/\I j S'
 | .exit id,S=>Q (.exit id) S
 | .ret,S=>Q .ret S
theorem aO.of {b:a8} {Q:aW->SS->Prop} (I:Nat->SS->Prop) (a: ∀k S,I k S->mf E b S (aa3 Q I k)) {k:Nat} {S0 S:SS} (hs:S0.Sub S) (h0:I k S0):aO E b S Q:=by
 refine⟨fun σ c=> ?_⟩;refine yU (fun k σ=> ∃S,S.On σ/\I k S) ?_ k σ ⟨S0,hs.on c,h0⟩;rintro k σ ⟨S,d,hi⟩;refine gH (cO (a k S hi) d) ?_;rintro e σ' ⟨S',h1,h2⟩;cases e with
 | normal=>
   obtain⟨j,f,YR,h3,h4⟩:=h2;exact⟨j,f,YR,h3.on h1,h4⟩
 | exit id=>exact⟨S',h1,h2⟩
 | ret=>exact⟨S',h1,h2⟩
theorem dV: ∀ {a:bI} {S:SS} {Q Q':KK},fX E a S Q->(∀v S' r w,Q v S' r w->Q' v S' r w)->fX E a S Q'
 | .done v,_,_,_,h,k=>k _ _ _ _ h
 | .fail,_,_,_,h,_=>h
 | .pc t f,S,Q,Q',h,k=>by
   simp only[fX] at h ⊢;split
   .rename_i v hv;rw[hv] at h;exact dV h fun _ _ _ _ h=>k _ _ _ _ h
   rename_i hv;rw[hv] at h;exact h
 | .bV t f,S,Q,Q',h,k=>by
   simp only[fX] at h ⊢;split
   .rename_i v hv;rw[hv] at h;exact dV h fun _ _ _ _ h=>k _ _ _ _ h
   rename_i hv;rw[hv] at h;exact h
 | .bS t o f,⟨T,O⟩,Q,Q',h,k=>by
   simp only[fX] at h ⊢;exact dV h fun _ _ _ _ h=>k _ _ _ _ h
 | .vI t f,S,Q,Q',h,k=>by
   simp only[fX] at h ⊢;exact fun g=>dV (h g) fun _ _ _ _ h=>k _ _ _ _ h
 | .call f aL c,S,Q,Q',h,k=>by
   simp only[fX] at h ⊢;obtain⟨res,h1,h2⟩:=h;exact⟨res,h1,dV h2 k⟩
 | .cb p c,S,Q,Q',h,k=> ⟨h.1,dV h.2 k⟩
 | .ex α p c,S,Q,Q',h,k=>by
   obtain⟨x,h1,h2⟩:=h;exact⟨x,h1,dV h2 k⟩
 | .ite b x y,S,Q,Q',h,k=> ⟨fun hb=>dV (h.1 hb) k,fun hb=>dV (h.2 hb) k⟩
 | .esc a,S,Q,Q',h,k=> ⟨fun σ d=>pd (h.h σ d) fun v σ' r w ⟨S',h1,h2⟩=> ⟨S',h1,k _ _ _ _ h2⟩⟩
 | .alt x y,S,Q,Q',h,k=>by
   rcases h with h| h
   .exact .inl (dV h k)
   exact .inr (dV h k)
 | .all f,S,Q,Q',h,k=>fun n=>dV (h n) k
theorem xR: ∀ {os:List bN} {S:SS} {Q Q':SS->Prop},NJ E os S Q->(∀S',Q S'->Q' S')->NJ E os S Q'
 | [],_,_,_,h,k=>k _ h
 | o::os,_,_,_,h,k=>dV h fun _ ⟨T,O⟩ _ _ h=>by
   cases hd:o.dst with
   | none=>simp only[hd] at h ⊢;exact xR h k
   | some d=>simp only[hd] at h ⊢;exact xR h k
theorem xS: ∀ {os:List bN} {S:SS} {Q Q':List dU->SS->Prop},Hk E os S Q->(∀fs S',Q fs S'->Q' fs S')->Hk E os S Q'
 | [],_,_,_,h,k=>k _ _ h
 | o::os,_,_,_,h,k=>dV h fun _ ⟨T,O⟩ _ _ h=>by
   cases hd:o.dst with
   | none=>simp only[hd] at h ⊢;exact xS h fun _ _ h=>k _ _ h
   | some d=>simp only[hd] at h ⊢;exact xS h fun _ _ h=>k _ _ h
theorem jP: ∀ {c:a8} {S:SS} {Q Q':aW->SS->Prop},mf E c S Q->(∀e S',Q e S'->Q' e S')->mf E c S Q'
 | .skip,_,_,_,h,k=>k _ _ h
 | .region _,_,_,_,h,k=>xR h fun _ h=>k _ _ h
 | .drawn _,_,_,_,h,k=>xS h fun _ _ h=> ⟨h.1,k _ _ h.2⟩
 | .seq a b,_,Q,Q',h,k=>jP (c:=a) h fun e S' d=>by
   cases e with
   | normal=>exact jP (c:=b) d k
   | exit id=>exact k _ _ d
   | ret=>exact k _ _ d
 | .cond c a b,S,Q,Q',h,k=>by
   simp only[mf] at h ⊢;cases c with
   | tmp t=>
     simp only at h ⊢;split at h
     .exact⟨fun hb=>jP (c:=a) (h.1 hb) k,fun hb=>jP (c:=b) (h.2 hb) k⟩
     exact h.elim
   | const v=>
     cases v
     case bool c=>exact⟨fun hb=>jP (c:=a) (h.1 hb) k,fun hb=>jP (c:=b) (h.2 hb) k⟩
     all_goals exact h.elim
 | .block id b,_,Q,Q',h,k=>jP (c:=b) h fun e S' d=>by
   cases e with
   | normal=>exact k _ _ d
   | ret=>exact k _ _ d
   | exit g=>
     simp only[QF] at d ⊢;cases hb:Nat.beq g id with
     | true=>simp only[hb,cond_true] at d ⊢;exact k _ _ d
     | false=>simp only[hb,cond_false] at d ⊢;exact k _ _ d
 | .loop b,_,_,_,h,k=> ⟨fun σ f=>gH (h.h σ f) fun e σ' ⟨S',h1,h2⟩=> ⟨S',h1,k _ _ h2⟩⟩
 | .exit _,_,_,_,h,k=>k _ _ h
 | .ret,_,_,_,h,k=>k _ _ h
 | .scope b,_,_,_,h,k=>jP (c:=b) h k
 | .pY ..,_,_,_,h,k=> ⟨fun σ f=>gH (h.h σ f) fun e σ' ⟨S',h1,h2⟩=> ⟨S',h1,k _ _ h2⟩⟩
 | .keys ..,_,_,_,h,k=> ⟨fun σ f=>gH (h.h σ f) fun e σ' ⟨S',h1,h2⟩=> ⟨S',h1,k _ _ h2⟩⟩
 | .bad,_,_,_,h,_=>h
inductive aR {α:Type} (Sh:α->SS) (P:α->Prop) (μ:α->Nat) (a:α) (S:SS):Prop
 | mk (a':α) (h1:μ a'<μ a) (h2:P a') (h3: (Sh a').Sub S)
def QG {α:Type} (Q:aW->SS->Prop) (Sh:α->SS) (P:α->Prop) (μ:α->Nat) (a:α):aW->SS->Prop
 | .normal,S=>aR Sh P μ a S
 | .exit id,S=>Q (.exit id) S
 | .ret,S=>Q .ret S
theorem aO.by {α:Type} {b:a8} {Q:aW->SS->Prop} {S:SS} (Sh:α->SS) (P:α->Prop) (μ:α->Nat) (a0:α) (hs: (Sh a0).Sub S) (h0:P a0)
   (step: ∀a,P a->mf E b (Sh a) (QG Q Sh P μ a)):aO E b S Q:=by
 refine aO.of (fun k S=> ∃a,k=μ a/\P a/\S=Sh a) ?_ hs ⟨a0,rfl,h0,rfl⟩;rintro k S ⟨a,rfl,hp,rfl⟩;refine jP (step a hp) fun e S' h=> ?_;cases e with
 | normal=>
   obtain⟨a',h1,h2,h3⟩:=h;exact⟨_,h1,_,h3,a',rfl,h2,rfl⟩
 | exit id=>exact h
 | ret=>exact h
theorem aO.NK {b:a8} {Q:aW->SS->Prop} {S:SS} (h:aO E b S fun e S'=> ∃S0,S0.Sub S'/\Q e S0):aO E b S Q:=by refine⟨fun σ a=>gH (h.h σ a) ?_⟩;rintro e σ' ⟨S',h1,S0,h2,h3⟩;exact⟨S0,h2.on h1,h3⟩
def aa4 (K:SS->Prop):aW->SS->Prop
 | .normal,S=>K S
 | _,_=>False
def DL (S:SS):List Nat->List V->SS
 | p::ps,x::xs=>DL (S.put (some p) x) ps xs
 | _,_=>S
theorem Hm: ∀ {ps:List Nat} {x:List V} {S:SS} {T:Nat->V} {O:Nat->Obj},S.On ⟨T,O⟩->(DL S ps x).On ⟨kr T ps x,O⟩
 | [],x,S,T,O,h=>by simpa [DL,kr] using h
 | p::ps,[],S,T,O,h=>by simpa [DL,kr] using h
 | p::ps,x::xs,S,T,O,h=>Hm (ps:=ps) (x:=xs) (h.put (some p) x)
inductive NL {α:Type} (Oh:α->List (Nat×Obj)) (P:α->Prop) (O:List (Nat×Obj)):Prop
 | mk (a:α) (h1:P a) (h2:zL (Oh a) O)
def ae4 {α:Type} (Q:aW->SS->Prop) (T:List (Nat×V)) (Oh:α->List (Nat×Obj)) (P:α->Prop):aW->SS->Prop
 | .normal,S=>NL Oh P S.O
 | .exit id,S=>Q (.exit id) ⟨T,S.O⟩
 | .ret,S=>Q .ret ⟨T,S.O⟩
theorem rk.by {α:Type} {fx:ba} {ps:List Nat} {ac b:a8} {S:SS} {Q:aW->SS->Prop} {g:Nat} {caps:List V} (xs:List (List V)) (hf:match fx with| .tmp t=>lk S.T t=some (.fn g caps) | .const v=>v= .fn g caps) (hi:E.iter g caps=some xs) (hl: ∀x ∈ xs,x.length=ps.length)
  (Oh:α->List (Nat×Obj)) (P:Nat->α->Prop) (a0:α) (h0:zL (Oh a0) S.O) (hp:P 0 a0)
  (step: ∀ (k:Nat) x a,xs[k]? =some x->P k a->mf E ac (DL ⟨S.T,Oh a⟩ ps x) (aa4 fun S1=>mf E b S1 (ae4 Q S.T Oh (P (k+1)))))
  (fin: ∀a,P xs.length a->Q .normal ⟨S.T,Oh a⟩):rk E fx ps ac b S Q:=by
 refine⟨fun σ i=> ?_⟩;have j: ∀ {l:List (Nat×Obj)} {σ:St} {m:List (Nat×Obj)},zL l m->(∀r o,lk m r=some o->σ.O r=o)-> ∀r o,lk l r=some o->σ.O r=o:=fun {l σ m} hs hm=>by have h2: (⟨[],m⟩:SS).On σ:=⟨fun t v h=>by simp[lk] at h,hm⟩;exact(SS.Sub.on (S:=⟨[],l⟩) (S':=⟨[],m⟩) ⟨trivial,hs⟩ h2).2
 have run: ∀ (rest:List (List V)) (k:Nat) (a:α) (O:Nat->Obj),xs.drop k=rest->P k a->(∀r o,lk (Oh a) r=some o->O r=o)->k<=xs.length-> ∃n e σ',vZ (exec E n) ps ac b σ.T rest O=some (e,σ')/\ ∃S',S'.On σ'/\Q e S':=by
  intro rest;induction rest with
  | nil=>
    intro k a O hd Hn u QH;have w:xs.length<=k:=by have:=congrArg List.length hd;simp at this;omega
    have:k=xs.length:=ajk;subst this;exact⟨0,.normal,⟨σ.T,O⟩,rfl,⟨S.T,Oh a⟩,⟨i.1,u⟩,fin a Hn⟩
  | cons x rest B=>
    intro k a O hd Hn u QH;have w:k<xs.length:=by
      rcases ak1 k xs.length with h| h
      .exact h
      rw[alr h] at hd;simp at hd
    rw[ajO w] at hd;injection hd with hx hd;have P2:xs[k]? =some x:=by rw[aju w,hx]
    obtain⟨d,C,σ1,h1,S1,h2,h3⟩:=cO (step k x a P2 Hn) (Hm (x:=x) (ps:=ps) (S:=⟨S.T,Oh a⟩) (T:=σ.T) (O:=O) ⟨i.1,u⟩);cases C with
    | exit id=>exact h3.elim
    | ret=>exact h3.elim
    | normal=>
      obtain⟨f,D,σ2,y,S2,z,A⟩:=cO h3 h2;cases D with
      | normal=>
        obtain⟨a',F,G⟩:=A;obtain⟨s,e,σ',H,I⟩:=B (k+1) a' σ2.O hd F (j (σ:=σ2) G z.2) ajk;refine⟨max d (max f s),e,σ',?_,I⟩;have p:=cN (E:=E) (aj3 d (max f s)) _ _ _ h1;have q:=cN (E:=E) (ajQ (aj3 f s) (ajU d _)) _ _ _ y;have J:=xK (fun c σ x h=>cN (E:=E) (ajQ (ajU f s) (ajU d _)) c σ x h) H;simp only[vZ,p,q,J]
      | exit id=>
        refine⟨max d f,.exit id,⟨σ.T,σ2.O⟩,?_,⟨S.T,S2.O⟩,⟨i.1,z.2⟩,A⟩;have p:=cN (E:=E) (aj3 d f) _ _ _ h1;have q:=cN (E:=E) (ajU d f) _ _ _ y;simp only[vZ,p,q]
      | ret=>
        refine⟨max d f,.ret,⟨σ.T,σ2.O⟩,?_,⟨S.T,S2.O⟩,⟨i.1,z.2⟩,A⟩;have p:=cN (E:=E) (aj3 d f) _ _ _ h1;have q:=cN (E:=E) (ajU d f) _ _ _ y;simp only[vZ,p,q]
 obtain⟨n,e,σ',h1,h2⟩:=run xs 0 a0 σ.O ajl hp (j (σ:=σ) h0 i.2) (akk _);refine⟨n+1,e,σ',?_,h2⟩;have Vv:bE σ fx= .fn g caps:=by
  cases fx with
  | tmp t=>exact i.1 t _ hf
  | const v=>exact hf
 have K:xs.all (fun x=>Nat.beq x.length ps.length)=true:=by rw[ajx];intro x hx;rw[akV];exact hl x hx
 simp only[exec,aK,Vv,hi,K,if_true,h1]
def QI (K:SS->Prop):aW->SS->Prop
 | .normal,S=>K S
 | _,_=>False
def aa6 (id:Nat) (K:SS->Prop):aW->SS->Prop
 | .exit a,S=>pf (a=id) (K S)
 | _,_=>False
theorem J8 {α:Type}: ∀ {l:List (Nat×α)} {n:Nat} {v:α},lk l n=some v->(n,v) ∈ l
 | [],n,v,h=>by simp[lk] at h
 | (k,u)::l,n,v,h=>by
   rw[fB] at h;split at h
   . rename_i e
     simp only at e;subst e;injection h with h;subst h;simp
   exact aka _ (J8 h)
theorem Hl.by {it nx ne id:Nat} {kT kO:List Nat} {h0 b l:a8} {Q:aW->SS->Prop} {S:SS} {r g:Nat} {arr:Bool} {es:List V} (Sh:List V->SS) (Sf:SS)
   (I:lk S.T it=some (.it r g)) (J:lk S.O r=some ⟨g,0,arr,false,some [.mlit es]⟩) (s: (Sh []).Sub ⟨S.T,(r,⟨g,0,false,false,none⟩)::S.O⟩)
   (K: ∀d,lk (Sh d).T it=some (.it r g)) (hg: ∀d,∃o,lk (Sh d).O r=some o/\o.gen=g) (bC: ∀e ∈ es,∃k v,e= .tuple [k,v])
   (step: ∀d k v rest,(d++ .tuple [k,v]::rest).Perm es->mf E h0 (SS.put (Sh d) (some nx) (.tuple [.bool true,k,v])) (QI fun S1=> (lk S1.T it=some (.it r g)/\ ∃o,lk S1.O r=some o/\o.gen=g)/\mf E b (SS.put S1 (some ne) (.tuple [k,v])) (QI fun S'=> (Sh (d++[.tuple [k,v]])).Sub S')))
   (last: ∀d,d.Perm es->mf E h0 (SS.put (Sh d) (some nx) (.tuple [.bool false])) (aa6 id fun S'=>mf E l S' (QI fun YR=>Sf.Sub YR)))
   (XP:kT.all (fun t=> (lk Sf.T t).isSome)=true) (XQ:kO.all (fun t=> (lk Sf.O t).isSome)=true) (L:Sf.T.all (fun p=>kT.contains p.1)=true) (M:Sf.O.all (fun p=>kO.contains p.1)=true)
   (N:Q .normal Sf):Hl E it nx ne id kT kO h0 b l S Q:=by
 refine⟨fun σ j=> ?_⟩;have u: (Sh []).On ⟨σ.T,dh σ.O r ⟨g,0,false,false,none⟩⟩:=by
   refine s.on ⟨fun t v hv=>j.1 t v hv,fun x o hx=> ?_⟩;rw[fB] at hx;show dh σ.O r _ x=o;unfold dh;by_cases e:r=x
   .simp only[e,if_true,ajq] at hx ⊢;exact hx
   rw[if_neg e] at hx;rw[if_neg (akN e)];exact j.2 x o hx
 have XR: ∀d (τ:St),(Sh d).On τ->zM it r g τ=true:=fun d τ hτ=>by obtain⟨o,h1,h2⟩:=hg d;unfold zM;rw[hτ.1 _ _ (K d),hτ.2 _ _ h1];simp[h2]
 have run: ∀ (rest d:List V) (τ:St),(d++rest).Perm es->(Sh d).On τ-> ∃n σp,runK (exec E n) it r g nx ne id h0 b l rest τ=some σp/\Sf.On σp:=by
   intro rest;induction rest with
   | nil=>
     intro d τ hp hτ;obtain⟨a,e,τ1,h1,S1,h2,h3⟩:=cO (last d (by simpa using hp)) (hτ.put (some nx) (.tuple [.bool false]));cases e with
     | normal=>exact h3.elim
     | ret=>exact h3.elim
     | exit w=>
       obtain⟨rfl,h3⟩:=h3;obtain⟨i,R,τ2,z,S2,A,B⟩:=cO h3 h2;cases R with
       | exit w=>exact B.elim
       | ret=>exact B.elim
       | normal=>
         refine⟨max a i,τ2,?_,SS.Sub.on B A⟩;have C:=cN (E:=E) (aj3 a i) _ _ _ h1;have D:=cN (E:=E) (ajU a i) _ _ _ z;simp only[runK,XR d τ hτ,if_true,C,D]
   | cons x rest U=>
     intro d τ hp hτ;obtain⟨k,v,rfl⟩:=bC x (hp.mem_iff.1 ajl);obtain⟨a,e,τ1,h1,S1,h2,h3⟩:=cO (step d k v rest hp) (hτ.put (some nx) (.tuple [.bool true,k,v]));cases e with
     | exit w=>exact h3.elim
     | ret=>exact h3.elim
     | normal=>
       obtain⟨⟨t1,o1,t2,W⟩,h3⟩:=h3;have F:zM it r g τ1=true:=by unfold zM;rw[h2.1 _ _ t1,h2.2 _ _ t2];simp[W]
       obtain⟨q,X,τ3,Y,S3,Z,G⟩:=cO h3 (h2.put (some ne) (.tuple [k,v]));cases X with
       | exit w=>exact G.elim
       | ret=>exact G.elim
       | normal=>
         obtain⟨i,σp,z,A⟩:=U (d++[.tuple [k,v]]) τ3 (by simpa using hp) (SS.Sub.on G Z);refine⟨max a (max q i),σp,?_,A⟩;have C:=cN (E:=E) (aj3 a (max q i)) _ _ _ h1;have m3:=cN (E:=E) (ajQ (aj3 q i) (ajU a _)) _ _ _ Y;have D:=sQ (fun c σ x h=>cN (E:=E) (ajQ (ajU q i) (ajU a _)) c σ x h) z;simp only[runK,XR d τ hτ,F,if_true,C,m3,D]
 obtain⟨n,ys,h1,h2,h3⟩:=A8 (f:=fun n p=>runK (exec E n) it r g nx ne id h0 b l p ⟨σ.T,dh σ.O r ⟨g,0,false,false,none⟩⟩) (P:=fun σp=>Sf.On σp)
   (fun n m p y P3 h=>sQ (fun c σ x h=>cN (E:=E) P3 c σ x h) h) (l:=perms es) fun p hp=>run p [] _ (by simpa using yY hp) u
 have bW:perms es≠[]:=fun e=>by have:=rn (List.Perm.refl es);rw[e] at this;simp at this
 match ys,h2,h3,h1 with
 | [],h2,_,_=>exact absurd (aks.1 h2.symm) bW
 | σ1::σs,_,h3,h1=>
   have YS:σ.T it= .it r g:=j.1 _ _ I;have H:=j.2 _ _ J;have XS:σs.all (agree kT kO σ1)=true:=by
     rw[ajx];intro τ hτ;have o1:=h3 σ1 ajl;have o2:=h3 τ (by simp[hτ]);simp only[agree,ajt,ajx] at XP XQ ⊢;refine⟨fun t ht=> ?_,fun x hx=> ?_⟩
     . obtain⟨v,hv⟩:=ajz.1 (XP t ht)
       rw[o1.1 t v hv,o2.1 t v hv];exact V.mS v
     obtain⟨v,hv⟩:=ajz.1 (XQ x hx);rw[o1.2 x v hv,o2.2 x v hv];exact Obj.mS v
   refine⟨n+1,.normal,forget kT kO σ1 σs,?_,Sf,?_,N⟩
   .simp only[exec,aK,YS,H,and_self,if_true,h1,XS]
   have o1:=h3 σ1 ajl;refine⟨fun t v hv=> ?_,fun x o hx=> ?_⟩
   . have:=ajx.1 L _ (J8 hv)
     simp only[forget,this,if_true];exact o1.1 t v hv
   have:=ajx.1 M _ (J8 hx);simp only[forget,this,if_true];exact o1.2 x o hx
theorem XT (i:Nat) (h:i< 4611686018427387904):V.int .i64 (IntKind.i64.wrap ((i:Int)+1))=V.int .i64 ((i+1:Nat):Int):=by rw[bo ajk ajk];rfl
def J9 ( S:SS):List vF->(List V->Prop)->Prop
 | [],k=>k []
 | .tmp t::rs,k=> (match lk S.T t with
   | some v=>J9 S rs fun vs=>k (v::vs)
   | none=>False)
 | .cell t agg sz::rs,k=> (match lk S.T t with
   | some (.ptr r g idx off)=> (match lk S.O r with
     | some ⟨a,_,_,_,b⟩=> (match b with
       | some [e]=> (match idx with
         | 0=>pf (a=g) (match AS agg off sz e with
           | some v=>J9 S rs fun vs=>k (v::vs)
           | none=>False)
         | _+1=>False)
       | _=>False)
     | none=>False)
   | _=>False)
theorem uO {S:SS} {σ:St} (a:S.On σ): ∀ {rs:List vF} {k:List V->Prop},J9 S rs k-> ∃vs,eW σ rs=some vs/\k vs
 | [],k,h=> ⟨[],rfl,h⟩
 | .tmp t::rs,k,h=>by
   simp only[J9] at h;split at h
   .rename_i v hv;obtain⟨vs,h1,h2⟩:=uO a h;exact⟨v::vs,by simp[eW,mT,h1,a.1 t v hv],h2⟩
   exact h.elim
 | .cell t agg sz::rs,k,h=>by
   simp only[J9] at h;split at h
   .rename_i r g idx off hv;split at h
    .rename_i b c d f i hr;split at h
     .rename_i e;split at h
      .obtain⟨hg,h⟩:=h;split at h
       .rename_i v hp;obtain⟨vs,h1,h2⟩:=uO a h;refine⟨v::vs,?_,h2⟩;simp[eW,mT,h1,a.1 t _ hv,a.2 r _ hr,hg,pn hp]
       exact h.elim
      exact h.elim
     exact h.elim
    exact h.elim
   exact h.elim
def yZ (S:SS):Nat->List V->(List (Nat×List V)->Prop)->Prop
 | _,[],k=>k []
 | i,.msl sz _ _ _::aL,k| i,.mptr sz _ _ _::aL,k=> (match lk S.O i with
   | some ⟨a,b,_,c,d⟩=> (match d with
     | some es=>pf (c=false/\b=sz/\V.al es=true) (yZ S (i+1) aL fun outs=>k ((a,es)::outs))
     | none=>False)
   | none=>False)
 | i,_::aL,k=>yZ S (i+1) aL k
theorem nW {S:SS} {σ:St} (b:S.On σ): ∀ {aL:List V} {i:Nat} {k:List (Nat×List V)->Prop},yZ S i aL k-> ∃outs,cV σ.O i aL=some outs/\k outs
 | [],i,k,h=> ⟨[],by simp[cV],by simpa [yZ] using h⟩
 | a::aL,i,k,h=>by
   cases a
   case msl sz es' off len=>
    simp only[yZ] at h;split at h
    .rename_i c d e f g hr;split at h
     .   rename_i es
         obtain⟨hc,h⟩:=h;obtain⟨outs,h1,h2⟩:=nW b h;refine⟨_,?_,h2⟩;simp[cV,b.2 i _ hr,h1,hc]
     exact h.elim
    exact h.elim
   case mptr sz es' off len=>
    simp only[yZ] at h;split at h
    .rename_i c d e f g hr;split at h
     .   rename_i es
         obtain⟨hc,h⟩:=h;obtain⟨outs,h1,h2⟩:=nW b h;refine⟨_,?_,h2⟩;simp[cV,b.2 i _ hr,h1,hc]
     exact h.elim
    exact h.elim
   all_goals
    simp only[yZ] at h;obtain⟨outs,h1,h2⟩:=nW b h;exact⟨outs,by simp[cV,h1],h2⟩
def v7 ( n:Nat) (S:SS) (c:V) (k:V->List Nat->Prop):Prop:=
 match c with
 | .sl r g off len=> (match lk S.O r with
   | some ⟨d,b,e,f,h⟩=> (match h with
     | some es=>pf (d=g/\e=true) (fP (fun a=>aN es off len=a) fun a=>pf (off+len<=es.length/\V.al a=true)
        (bif Nat.blt r n then k (.sl r g off len) [r] else bif f then k (.lit b a) [] else k (.own b a) [r]))
     | none=>False)
   | none=>False)
 | c=>pf (V.az c=true) (k c [])
theorem rp {n:Nat} {S:SS} {σ:St} (d:S.On σ) {c:V} {k:V->List Nat->Prop} (h:v7 n S c k): ∃v rs,cQ n σ c=some (v,rs)/\k v rs:=by
 unfold v7 at h;split at h
 .rename_i r g off len;split at h
  .rename_i f i j e l hr;split at h
   .rename_i es;obtain⟨⟨h1,h2⟩,m,rfl,⟨h3,h4⟩,h⟩:=h;have b:=d.2 r _ hr;simp only[cQ,b,h1,h2,h3,h4,and_self,if_true];cases hb:Nat.blt r n with
    | true=>
      have:r<n:=by simpa [Nat.blt_eq] using hb
      simp only[hb,cond_true] at h;rw[if_pos this];exact⟨_,_,rfl,h⟩
    | false=>
      have: ¬r<n:=by intro hc;rw[<-Nat.blt_eq,hb] at hc;simp at hc
      simp only[hb,cond_false] at h;rw[if_neg this];cases a:e with
      | true=>simp only[a,cond_true] at h;exact⟨_,_,by simp[b,a],h⟩
      | false=>simp only[a,cond_false] at h;exact⟨_,_,by simp[b,a],h⟩
   exact h.elim
  exact h.elim
 rename_i hn;refine⟨c,[],?_,h.rest⟩;have h:=h.side;unfold cQ;cases c
 case sl=>exact absurd rfl (hn _ _ _ _)
 all_goals simp_all
def sU (n:Nat) (S:SS):List V->(List V->List Nat->Prop)->Prop
 | [],k=>k [] []
 | c::cs,k=>v7 n S c fun a r=>sU n S cs fun b rs=>k (a::b) (r++rs)
theorem lF {n:Nat} {S:SS} {σ:St} (a:S.On σ): ∀ {cs:List V} {k:List V->List Nat->Prop},sU n S cs k-> ∃v rs,cC n σ cs=some (v,rs)/\k v rs
 | [],_,h=> ⟨[],[],rfl,h⟩
 | c::cs,k,h=>by obtain⟨v,r,h1,h2⟩:=rp a h;obtain⟨vs,rs,h3,h4⟩:=lF a h2;exact⟨_,_,by simp[cC,h1,h3],h4⟩
def QJ (n:Nat) (S:SS) (v:V) (k:V->List Nat->Prop):Prop:=
 bif V.az v then k v [] else
 match v with
 | .agg cs=>sU n S cs fun a rs=>k (.agg a) rs
 | .fn f cs=>sU n S cs fun a rs=>pf (V.al a=true) (k (.fn f a) rs)
 | v=>v7 n S v k
theorem Ho {n:Nat} {S:SS} {σ:St} (a:S.On σ) {v:V} {k:V->List Nat->Prop} (h:QJ n S v k): ∃v' rs,ej n σ v=some (v',rs)/\k v' rs:=by
 unfold QJ at h;unfold ej;cases hp:V.az v with
 | true=>simp only[hp,cond_true] at h;exact⟨v,[],ajl,h⟩
 | false=>
   simp only[hp,cond_false] at h;simp only[ajA,if_false];split at h
   .obtain⟨b,rs,h1,h2⟩:=lF a h;exact⟨_,_,by simp[h1],h2⟩
   .obtain⟨b,rs,h1,h2,h3⟩:=lF a h;exact⟨_,_,by simp[h1,h2],h3⟩
   obtain⟨v',rs,h1,h2⟩:=rp a h;exact⟨v',rs,by cases v<;>simp_all,h2⟩
def Ka (n:Nat) (S:SS):List V->(List V->List Nat->Prop)->Prop
 | [],k=>k [] []
 | c::cs,k=>QJ n S c fun a r=>Ka n S cs fun b rs=>k (a::b) (r++rs)
theorem v8 {n:Nat} {S:SS} {σ:St} (a:S.On σ): ∀ {cs:List V} {k:List V->List Nat->Prop},Ka n S cs k-> ∃v rs,dN n σ cs=some (v,rs)/\k v rs
 | [],_,h=> ⟨[],[],rfl,h⟩
 | c::cs,k,h=>by obtain⟨v,r,h1,h2⟩:=Ho a h;obtain⟨vs,rs,h3,h4⟩:=v8 a h2;exact⟨_,_,by simp[dN,h1,h3],h4⟩
def rq (rs:List vF) (args:List V) (S:SS) (R:fu->Prop):Prop:=
 J9 S rs fun vs=>yZ S 0 args fun outs=>Ka args.length S vs fun vs' a=>pf (distinct a=true) (match vs' with
  | [v]=>R ⟨v,outs⟩
  | vs'=>R ⟨.tuple vs',outs⟩)
def C4 (rs:List vF) (args:List V) (R:fu->Prop):aW->SS->Prop
 | .exit _,_=>False
 | .normal,S=>rq rs args S R
 | .ret,S=>rq rs args S R
theorem qe {rs:List vF} {args:List V} {S:SS} {R:fu->Prop} {σ:St} (c:S.On σ) (h:rq rs args S R): ∃res,leave ⟨0,0,[],rs,.skip,none⟩ args σ=some res/\R res:=by
 obtain⟨vs,h1,h⟩:=uO c h;obtain⟨outs,h2,h⟩:=nW c h;obtain⟨vs',d,h3,h4,h⟩:=v8 c h;simp only[leave,h1,h2,h3];split at h
 .rename_i v;exact⟨_,by simp[h4],h⟩
 rename_i hn;refine⟨⟨.tuple vs',outs⟩,?_,h⟩;split
 .rename_i v rs' a;injection a with b;injection b with b e;exact absurd b (by intro hh;exact hn v hh)
 .rename_i f g a;injection a with b;injection b with b e;subst b e;simp[h4]
 rename_i a;simp at a
def oO:Nat->List V->List (Nat×V)
 | _,[]=> []
 | i,.msl _ _ off len::aL=> (i,.sl i 0 off len)::oO (i+1) aL
 | i,.mptr _ _ idx off::aL=> (i,.ptr i 0 idx off)::oO (i+1) aL
 | i,v::aL=> (i,v)::oO (i+1) aL
def oP:Nat->List V->List (Nat×Obj)
 | _,[]=> []
 | i,.msl sz es _ _::aL=> (i,{gen:=0,sz,arr:=true,fz:=false,es:=some es})::oP (i+1) aL
 | i,.mptr sz es _ _::aL=> (i,{gen:=0,sz,arr:=false,fz:=false,es:=some es})::oP (i+1) aL
 | i,_::aL=>oP (i+1) aL
def xU (args:List V):SS:=⟨oO 0 args,oP 0 args⟩
theorem DM: ∀ (aL pre:List V) (t:Nat) (v:V),lk (oO pre.length aL) t=some v->(enter (pre++aL)).T t=v
 | [],_,_,_,h=>by simp[oO,lk] at h
 | a::aL,pre,t,v,h=>by
   have b:=DM aL (pre++[a]) t v;simp only[List.length_append,ajC,ajJ,akg,akB,List.singleton_append] at b;have key: ∀x,lk ((pre.length,x)::oO (pre.length+1) aL) t=some v->(enter (pre++a::aL)).T pre.length=x->(enter (pre++a::aL)).T t=v:=by
    intro x hx hv;rw[fB] at hx;by_cases e:pre.length=t
    .simp only[e,if_true,ajq] at hx;rw[<-hx,<-hv,e]
    simp only[e,if_false] at hx;exact b hx
   have hg: (pre++a::aL)[pre.length]? =some a:=ajl;cases a
   case msl=>exact key _ (by simpa [oO] using h) (by simp[enter,hg])
   case mptr=>exact key _ (by simpa [oO] using h) (by simp[enter,hg])
   all_goals exact key _ (by simpa [oO] using h) (by simp[enter,hg])
theorem DN: ∀ (aL pre:List V) (t:Nat) (v:Obj),lk (oP pre.length aL) t=some v->(enter (pre++aL)).O t=v
 | [],_,_,_,h=>by simp[oP,lk] at h
 | a::aL,pre,t,v,h=>by
   have b:=DN aL (pre++[a]) t v;simp only[List.length_append,ajC,ajJ,akg,akB,List.singleton_append] at b;have key: ∀x,lk ((pre.length,x)::oP (pre.length+1) aL) t=some v->(enter (pre++a::aL)).O pre.length=x->(enter (pre++a::aL)).O t=v:=by
    intro x hx hv;rw[fB] at hx;by_cases e:pre.length=t
    .simp only[e,if_true,ajq] at hx;rw[<-hx,<-hv,e]
    simp only[e,if_false] at hx;exact b hx
   have hg: (pre++a::aL)[pre.length]? =some a:=ajl;cases a
   case msl=>exact key _ (by simpa [oP] using h) (by simp[enter,hg])
   case mptr=>exact key _ (by simpa [oP] using h) (by simp[enter,hg])
   all_goals exact b (by simpa [oP] using h)
theorem xV (args:List V): (xU args).On (enter args):=
 ⟨fun t v h=>DM args [] t v h,fun r o h=>DN args [] r o h⟩
theorem Ev.cg {f:Nat} {af:aT} {args:List V} {R:fu->Prop} (hf:E.fn f=some af) (hx:E.ext f args=none) (hl:args.length=af.nparams)
  (h:mf E af.body (xU args) (C4 af.results args R)) (ht:af.tag=none:=by rfl) (hh:E.hyb f=none:=by rfl): ∃res,Ev E f args res/\R res:=by
 obtain⟨n,e,σ',h1,S',h2,h3⟩:=cO h (xV args);have key: ∀ {e},exec E n af.body (enter args)=some (e,σ')->(e= .normal\/e= .ret)->rq af.results args S' R-> ∃res,Ev E f args res/\R res:=by intro e h1 he YT;obtain⟨res,h4,h5⟩:=qe h2 YT;refine⟨res,⟨n,?_⟩,h5⟩;unfold call dM;rw[hh];simp only[fh];rw[hx];simp only[hf,hl,if_true,ht,h1];rcases he with rfl| rfl<;>exact h4
 cases e with
 | normal=>exact key h1 (.inl rfl) h3
 | ret=>exact key h1 (.inr rfl) h3
 | exit id=>exact h3.elim
theorem Ev.aG {f:Nat} {af:aT} {args:List V} {res:fu} (hf:E.fn f=some af) (hx:E.ext f args=none) (hl:args.length=af.nparams)
  (h:mf E af.body (xU args) (C4 af.results args (· =res))) (ht:af.tag=none:=by rfl) (hh:E.hyb f=none:=by rfl):Ev E f args res:=by
 obtain⟨r,h1,rfl⟩:=Ev.cg hf hx hl h ht hh;exact h1
theorem Ev.aa7 {f:Nat} {af:aT} {args:List V} {R:fu->Prop} {p:Nat×Nat} {QK:List V} (hf:E.fn f=some af) (hx:E.ext f args=none) (hl:args.length=af.nparams) (ht:af.tag=some p) (hp:V.al args=true) (hm:cR p args=QK)
  (h:mf E af.body (xU QK) (C4 af.results QK R)) (hh:E.hyb f=none:=by rfl): ∃res,Ev E f args ⟨res.val.erase,[]⟩/\R res:=by
 subst hm;obtain⟨n,e,σ',h1,S',h2,h3⟩:=cO h (xV (cR p args));have key: ∀ {e},exec E n af.body (enter (cR p args))=some (e,σ')->(e= .normal\/e= .ret)->rq af.results (cR p args) S' R-> ∃res,Ev E f args ⟨res.val.erase,[]⟩/\R res:=by intro e h1 he YT;obtain⟨res,h4,h5⟩:=qe h2 YT;refine⟨res,⟨n,?_⟩,h5⟩;unfold call dM;rw[hh];simp only[fh];rw[hx];simp only[hf,hl,if_true,ht,hp,h1];have a:leave af (cR p args) σ'=some res:=h4;rcases he with rfl| rfl<;>simp only[a,ajE]
 cases e with
 | normal=>exact key h1 (.inl rfl) h3
 | ret=>exact key h1 (.inr rfl) h3
 | exit id=>exact h3.elim
end
inductive uQ {α:Type} (Sh:α->SS) (P:α->Prop) (S:SS):Prop
 | mk (x:α) (h2:P x) (h3: (Sh x).Sub S)
def aa8 {α:Type} (Q:aW->SS->Prop) (Sh:α->SS) (P:α->Prop):aW->SS->Prop
 | .normal,S=>uQ Sh P S
 | .exit id,S=>Q (.exit id) S
 | .ret,S=>Q .ret S
def NM:Nat->a8->a8
 | 0,_=> .skip
 | n+1,.seq a b=> .seq a (NM n b)
 | _+1,c=>c
def y5:Nat->a8->a8
 | 0,c=>c
 | n+1,.seq _ b=>y5 n b
 | _+1,_=> .skip
section
variable {E:Env}
def WS (E:Env) (c:a8) (S:SS) (Q:aW->SS->Prop):Prop:= ∀σ,S.On σ->o8 E c σ fun e σ'=> ∃S',S'.On σ'/\Q e S'
theorem WS.of {c:a8} {S:SS} {Q:aW->SS->Prop} (h:mf E c S Q):WS E c S Q:=fun _ a=>cO h a
theorem DO: ∀ {n:Nat} {c:a8} {σ:St} {Q:aW->St->Prop},o8 E (NM n c) σ (andThen Q fun σ'=>o8 E (y5 n c) σ' Q)->o8 E c σ Q
 | 0,c,σ,Q,h=>by
   simp only[NM] at h;rw[AK] at h;exact h
 | n+1,c,σ,Q,h=>by
   have other:NM (n+1) c=c->y5 (n+1) c= .skip->o8 E c σ Q:=fun f g=>by
    rw[f,g] at h;refine gH h ?_;intro e σ' d;cases e with
    | normal=>simp only[andThen] at d;rw[AK] at d;exact d
    | exit id=>exact d
    | ret=>exact d
   cases c
   case seq a b=>
    simp only[NM,y5] at h;rw[E9] at h ⊢;refine gH h ?_;intro e σ' d;cases e with
    | normal=>exact DO (n:=n) d
    | exit id=>exact d
    | ret=>exact d
   all_goals exact other rfl rfl
theorem WS.cut {α:Type} (n:Nat) (Sh:α->SS) (P:α->Prop) {Q:aW->SS->Prop} {c:a8} {S:SS} (h1:mf E (NM n c) S (aa8 Q Sh P)) (h2: ∀x,P x->WS E (y5 n c) (Sh x) Q):WS E c S Q:=fun σ a=>by
 refine DO (n:=n) (gH (cO h1 a) ?_);rintro e σ' ⟨S',h3,h4⟩;cases e with
 | normal=>
   obtain⟨x,h5,h6⟩:=h4;exact h2 x h5 σ' (h6.on h3)
 | exit id=>exact⟨S',h3,h4⟩
 | ret=>exact⟨S',h3,h4⟩
theorem Ev.XU {f:Nat} {af:aT} {args:List V} {R:fu->Prop} (hf:E.fn f=some af) (hx:E.ext f args=none) (hl:args.length=af.nparams)
  (h:WS E af.body (xU args) (C4 af.results args R)) (ht:af.tag=none:=by rfl) (hh:E.hyb f=none:=by rfl): ∃res,Ev E f args res/\R res:=by
 obtain⟨n,e,σ',h1,S',h2,h3⟩:=h (enter args) (xV args);have key: ∀ {e},exec E n af.body (enter args)=some (e,σ')->(e= .normal\/e= .ret)->rq af.results args S' R-> ∃res,Ev E f args res/\R res:=by intro e h1 he YT;obtain⟨res,h4,h5⟩:=qe h2 YT;refine⟨res,⟨n,?_⟩,h5⟩;unfold call dM;rw[hh];simp only[fh];rw[hx];simp only[hf,hl,if_true,ht,h1];rcases he with rfl| rfl<;>exact h4
 cases e with
 | normal=>exact key h1 (.inl rfl) h3
 | ret=>exact key h1 (.inr rfl) h3
 | exit id=>exact h3.elim
theorem aO.ws {α:Type} {b:a8} {Q:aW->SS->Prop} {S:SS} (Sh:α->SS) (P:α->Prop) (μ:α->Nat) (a0:α) (hs: (Sh a0).Sub S) (h0:P a0)
   (step: ∀a,P a->WS E b (Sh a) (QG Q Sh P μ a)):aO E b S Q:=by
 refine⟨fun σ c=> ?_⟩;refine yU (fun k σ=> ∃a,k=μ a/\P a/\(Sh a).On σ) ?_ (μ a0) σ ⟨a0,rfl,h0,hs.on c⟩;rintro k σ ⟨a,rfl,hp,d⟩;refine gH (step a hp σ d) ?_;rintro e σ' ⟨S',h1,h2⟩;cases e with
 | normal=>
   obtain⟨a',h3,h4,h5⟩:=h2;exact⟨_,h3,a',rfl,h4,h5.on h1⟩
 | exit id=>exact⟨S',h1,h2⟩
 | ret=>exact⟨S',h1,h2⟩
end
end Go.AM
