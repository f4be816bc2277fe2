/-
  Texts of the proof: AmWp, AmSim, AmSortL, AmTab, AmHyb, AmOth, AmS, AmS2, AmS3, AmS4, AmS5, AmCut.
-/
import Derived.Test.YtjkmpppkkhbjkaaGreatDefs
import Derived.Attr
set_option linter.unusedSimpArgs false
set_option linter.unusedVariables false
namespace Go.AM
def Ia (C C':a9):Prop:= ∀f as r,C f as=some r→C' f as=some r
theorem Act.gY {C C':a9} (h:Ia C C'): ∀ (a:Act) (σ:St) (r:V×St),a.run C σ=some r→a.run C' σ=some r
 | .done v,σ,r,e=>by simpa [Act.run] using e
 | .fail,σ,r,e=>by simp[Act.run] at e
 | .lQ t k,σ,r,e=>by simp only[Act.run] at e ⊢;exact Act.gY h _ _ _ e
 | .bG t k,σ,r,e=>by simp only[Act.run] at e ⊢;exact Act.gY h _ _ _ e
 | .bo t o k,σ,r,e=>by simp only[Act.run] at e ⊢;exact Act.gY h _ _ _ e
 | .call f as k,σ,r,e=>by
   simp only[Act.run] at e ⊢
   split at e
   · rename_i res kL
     rw[h f as res kL]
     exact Act.gY h _ _ _ e
   · simp at e
theorem Act.gA {C C':a9} (h:Ia C C'): ∀ (a:Act) (σ:St) (r:V×St),a.run C σ=some r→a.dB C' σ=a.dB C σ
 | .done v,σ,r,e=>by simp[Act.dB]
 | .fail,σ,r,e=>by simp[Act.run] at e
 | .lQ t k,σ,r,e=>by simp only[Act.run] at e;simp only[Act.dB];rw[Act.gA h _ _ _ e]
 | .bG t k,σ,r,e=>by simp only[Act.run] at e;simp only[Act.dB];rw[Act.gA h _ _ _ e]
 | .bo t o k,σ,r,e=>by simp only[Act.run] at e;simp only[Act.dB];rw[Act.gA h _ _ _ e]
 | .call f as k,σ,r,e=>by
   simp only[Act.run] at e
   simp only[Act.dB]
   split at e
   · rename_i res kL
     rw[h f as res kL]
     simp only
     exact Act.gA h _ _ _ e
   · simp at e
theorem tC {E:Env} {C C':a9} (h:Ia C C') {o:bJ} {σ σ':St} (e:ei E C o σ=some σ'):ei E C' o σ=some σ':=by
 unfold ei at e ⊢
 split at e
 · rename_i v σ1 hr
   rw[Act.gY h _ _ _ hr];exact e
 · simp at e
theorem lX {E:Env} {C C':a9} (h:Ia C C'): ∀ {os:List bJ} {σ σ':St},ik E C os σ=some σ'→ik E C' os σ=some σ'
 | [],_,_,e=>by simpa [ik] using e
 | o::os,_,_,e=>by
   simp only[ik] at e ⊢
   split at e
   · rename_i σ1 h1
     rw[tC h h1]
     exact lX h e
   · simp at e
theorem vK {E:Env} {C C':a9} (h:Ia C C') {o:bJ} {σ σ':St} (e:ei E C o σ=some σ'):cB E C' o σ=cB E C o σ:=by
 unfold ei at e
 split at e
 · rename_i v σ1 hr
   simp only[cB,Act.gA h _ _ _ hr]
 · simp at e
theorem jT {E:Env} {C C':a9} (h:Ia C C'): ∀ {os:List bJ} {bF:List cI} {before:List (List Nat)} {σ σ':St},du E C os bF before σ=some σ'→du E C' os bF before σ=some σ'
 | [],_,_,_,_,e=>by simpa [du] using e
 | o::os,bF,before,σ,_,e=>by
   simp only[du] at e ⊢
   split at e
   · rename_i hc
     split at e
     · rename_i σ1 h1
       rw[vK h h1,tC h h1,if_pos hc]
       exact jT h e
     · simp at e
   · simp at e
def Ni (r r':aW→St→Option (aX×St)):Prop:= ∀c σ x,r c σ=some x→r' c σ=some x
theorem rN {E:Env} {r r':aW→St→Option (aX×St)} (h:Ni r r'):Ia (iY E r) (iY E r'):=by
 intro f as res e
 unfold iY at e ⊢
 split at e
 · exact e
 · split at e
   · split at e
     · rename_i hl
       rw[if_pos hl]
       split at e
       · split at e
         · rename_i σ hx;rw[h _ _ _ hx];exact e
         · rename_i σ hx;rw[h _ _ _ hx];exact e
         · simp at e
       · split at e
         · rename_i hp
           rw[if_pos hp]
           split at e
           · rename_i σ hx;rw[h _ _ _ hx];exact e
           · rename_i σ hx;rw[h _ _ _ hx];exact e
           · simp at e
         · simp at e
     · simp at e
   · simp at e
theorem nU {E:Env} {r r':aW→St→Option (aX×St)} (h:Ni r r'):Ia (dw E r) (dw E r'):=by
 intro f as res e
 unfold dw at e ⊢
 split at e
 · rename_i g hg
   exact E.mono f g hg _ _ (rN h) _ _ e
 · exact rN h _ _ _ e
theorem vL {E:Env} {C C':a9} (hC:Ia C C') {r r':aW→St→Option (aX×St)} (h:Ni r r'):Ni (aG E C r) (aG E C' r'):=by
 intro c σ x e
 cases c with
 | skip=>simpa [aG] using e
 | region ops=>
   simp only[aG,Option.map_eq_some_iff] at e ⊢
   obtain⟨σ1,h1,h2⟩:=e
   exact⟨σ1,lX hC h1,h2⟩
 | drawn ops=>
   simp only[aG,Option.map_eq_some_iff] at e ⊢
   obtain⟨σ1,h1,h2⟩:=e
   exact⟨σ1,jT hC h1,h2⟩
 | seq a b=>
   simp only[aG] at e ⊢
   split at e
   · rename_i σ1 h1;rw[h _ _ _ h1];exact h _ _ _ e
   · rename_i hn
     rw[h _ _ _ e]
     rcases x with⟨ex,σ1⟩
     cases ex with
     | normal=>exact absurd e (by simpa using hn σ1)
     | _=>rfl
 | cond c a b=>
   simp only[aG] at e ⊢
   split at e
   · exact h _ _ _ e
   · exact h _ _ _ e
   · simp at e
 | block id b=>
   simp only[aG] at e ⊢
   split at e
   · rename_i jB σ1 h1;rw[h _ _ _ h1];exact e
   · rename_i hn
     rw[h _ _ _ e]
     rcases x with⟨ex,σ1⟩
     cases ex with
     | exit jB=>exact absurd e (by simpa using hn jB σ1)
     | _=>rfl
 | loop b=>
   simp only[aG] at e ⊢
   split at e
   · rename_i σ1 h1;rw[h _ _ _ h1];exact h _ _ _ e
   · rename_i hn
     rw[h _ _ _ e]
     rcases x with⟨ex,σ1⟩
     cases ex with
     | normal=>exact absurd e (by simpa using hn σ1)
     | _=>rfl
 | exit id=>simpa [aG] using e
 | ret=>simpa [aG] using e
 | scope b=>simp only[aG] at e ⊢;exact h _ _ _ e
 | bad=>simp[aG] at e
 | lY fx ps a b=>
   simp only[aG] at e ⊢
   split at e
   · rename_i g caps hg
     try simp only[hg]
     split at e
     · rename_i xs Cm
       try simp only[Cm]
       split at e
       · rename_i hc
         try rw[if_pos hc]
         exact qN h e
       · simp at e
     · simp at e
   · simp at e
 | keys it nx ne id kT kO hd b l=>
   simp only[aG] at e ⊢
   split at e
   · rename_i ri g hT
     try simp only[hT]
     split at e
     · rename_i es hO
       try simp only[hO]
       split at e
       · rename_i hc
         try rw[if_pos hc]
         split at e
         · rename_i σ1 σs hr
           rw[kM (fun p y hy=>nb h hy) hr]
           exact e
         · simp at e
       · simp at e
     · simp at e
   · simp at e
theorem wb {E:Env}: ∀n,Ni (exec E n) (exec E (n+1))
 | 0=>by intro c σ x e;simp[exec] at e
 | n+1=>by
   have ih:=wb (E:=E) n
   have:=vL (E:=E) (nU (E:=E) ih) ih
   intro c σ x e
   simp only[exec] at e ⊢
   exact this _ _ _ e
theorem cp {E:Env} {n m:Nat} (h:n≤m):Ni (exec E n) (exec E m):=by
 induction h with
 | refl=>exact fun _ _ _ e=>e
 | step _ ih=>exact fun c σ x e=>wb _ _ _ _ (ih c σ x e)
theorem fG {E:Env} {n m:Nat} (h:n≤m):Ia (call E n) (call E m):=nU (cp h)
def Ev (E:Env) (f:Nat) (args:List V) (res:dk):Prop:= ∃n,call E n f args=some res
def St.bo (σ:St) (r:Nat) (o:Obj):St:={σ with O:=dg σ.O r o}
inductive Tg {α β:Type} (a:α) (b:β):Type
 | mk
def wc (E:Env) (a:Act) (σ:St) (Q:V→St→Prop) (_:Tg σ Q:= .mk):Prop:= ∃n v σ',a.run (call E n) σ=some (v,σ')∧Q v σ'
def Io (E:Env) (os:List bJ) (σ:St) (Q:St→Prop) (_:Tg os (σ,Q):= .mk):Prop:= ∃n σ',ik E (call E n) os σ=some σ'∧Q σ'
def ka (E:Env) (c:aW) (σ:St) (Q:aX→St→Prop) (_:Tg c (σ,Q):= .mk):Prop:= ∃n e σ',exec E n c σ=some (e,σ')∧Q e σ'
def pg (E:Env) (a:Act) (σ:St) (Q:V→St→List Loc→List Loc→Prop) (_:Tg σ Q:= .mk):Prop:= ∃n v σ',a.run (call E n) σ=some (v,σ')∧Q v σ' (a.dB (call E n) σ).reads (a.dB (call E n) σ).writes
def JZ (E:Env) (bF:List cI) (before:List (List Nat)) (os:List bJ) (σ:St) (Q:St→Prop):Prop:= ∃n σ',du E (call E n) os bF before σ=some σ'∧Q σ'
section
variable {E:Env} {σ:St}
theorem pn {v:V} {Q:V→St→Prop}:wc E (.done v) σ Q=Q v σ:=by
 simp only[wc,Act.run,eq_iff_iff]
 constructor
 · rintro⟨_,_,_,h,q⟩;injection h with h;injection h with h1 h2;subst h1 h2;exact q
 · exact fun q=> ⟨0,_,_,rfl,q⟩
theorem po {Q:V→St→Prop}:wc E .fail σ Q=False:=by
 simp[wc,Act.run]
theorem tD {t:Nat} {k:V→Act} {Q:V→St→Prop}:wc E (.lQ t k) σ Q=wc E (k (σ.T t)) σ Q:=by
 simp[wc,Act.run]
theorem tE {t:Nat} {k:Obj→Act} {Q:V→St→Prop}:wc E (.bG t k) σ Q=wc E (k (σ.O t)) σ Q:=by
 simp[wc,Act.run]
theorem tF {t:Nat} {o:Obj} {k:Act} {Q:V→St→Prop}:wc E (.bo t o k) σ Q=wc E k (σ.bo t o) Q:=by
 simp[wc,Act.run,St.bo]
theorem xm {c:Prop} [Decidable c] {a b:Act} {Q:V→St→Prop}:wc E (if c then a else b) σ Q=if c then wc E a σ Q else wc E b σ Q:=by
 split<;>rfl
theorem tG {v:Option V} {Q:V→St→Prop}:wc E (cz v) σ Q=match v with| some v=>Q v σ| none=>False:=by
 cases v<;>simp[cz,pn,po]
theorem s6 {Q:St→Prop}:Io E [] σ Q=Q σ:=by simp[Io,ik]
theorem pq {o:bJ} {os:List bJ} {Q:St→Prop}:Io E (o::os) σ Q=wc E (dm E o) σ fun v σ'=>Io E os (σ'.put o.dst v) Q:=by
 simp only[Io,wc,ik,ei,eq_iff_iff]
 constructor
 · rintro⟨n,σ2,h,q⟩
   split at h
   · rename_i σ1 h1
     split at h1
     · rename_i v σ0 h0
       injection h1 with h1;subst h1
       exact⟨n,v,σ0,h0,n,σ2,h,q⟩
     · simp at h1
   · simp at h
 · rintro⟨n,v,σ0,h0,m,σ2,h,q⟩
   refine⟨max n m,σ2,?_,q⟩
   rw[Act.gY (fG (Nat.le_max_left n m)) _ _ _ h0]
   exact lX (fG (Nat.le_max_right n m)) h
theorem lZ {v:V} {Q:V→St→List Loc→List Loc→Prop}:pg E (.done v) σ Q=Q v σ [] []:=by
 simp only[pg,Act.run,Act.dB,eq_iff_iff]
 constructor
 · rintro⟨_,_,_,h,q⟩;injection h with h;injection h with h1 h2;subst h1 h2;exact q
 · exact fun q=> ⟨0,_,_,rfl,q⟩
theorem pr {Q:V→St→List Loc→List Loc→Prop}:pg E .fail σ Q=False:=by
 simp[pg,Act.run]
theorem pt {t:Nat} {k:V→Act} {Q:V→St→List Loc→List Loc→Prop}:pg E (.lQ t k) σ Q=pg E (k (σ.T t)) σ fun v σ' r w=>Q v σ' (.t t::r) w:=by
 simp[pg,Act.run,Act.dB]
theorem ma {t:Nat} {k:Obj→Act} {Q:V→St→List Loc→List Loc→Prop}:pg E (.bG t k) σ Q=pg E (k (σ.O t)) σ fun v σ' r w=>Q v σ' (.o t::r) w:=by
 simp[pg,Act.run,Act.dB]
theorem pw {t:Nat} {o:Obj} {k:Act} {Q:V→St→List Loc→List Loc→Prop}:pg E (.bo t o k) σ Q=pg E k (σ.bo t o) fun v σ' r w=>Q v σ' r (.o t::w):=by
 simp[pg,Act.run,Act.dB,St.bo]
theorem E4 {f:Nat} {as:List V} {k:dk→Act} {Q:V→St→List Loc→List Loc→Prop}:pg E (.call f as k) σ Q= ∃res,Ev E f as res∧pg E (k res) σ Q:=by
 simp only[pg,eq_iff_iff]
 constructor
 · rintro⟨n,v,σ',h,q⟩
   simp only[Act.run,Act.dB] at h q
   split at h
   · rename_i res hr
     simp only[hr] at q
     exact⟨res,⟨n,hr⟩,n,v,σ',h,q⟩
   · simp at h
 · rintro⟨res,⟨n,hn⟩,m,v,σ',h,q⟩
   have e1:=fG (E:=E) (Nat.le_max_left n m) _ _ _ hn
   have e2:=Act.gY (fG (E:=E) (Nat.le_max_right n m)) _ _ _ h
   have e3:=Act.gA (fG (E:=E) (Nat.le_max_right n m)) _ _ _ h
   refine⟨max n m,v,σ',?_,?_⟩
   · simp only[Act.run,e1];exact e2
   · simp only[Act.dB,e1,e3];exact q
theorem xn {c:Prop} [Decidable c] {a b:Act} {Q:V→St→List Loc→List Loc→Prop}:pg E (if c then a else b) σ Q=if c then pg E a σ Q else pg E b σ Q:=by
 split<;>rfl
theorem tH {v:Option V} {Q:V→St→List Loc→List Loc→Prop}:pg E (cz v) σ Q=match v with| some v=>Q v σ [] [] | none=>False:=by
 cases v<;>simp[cz,lZ,pr]
theorem Ip {bF:List cI} {before:List (List Nat)} {Q:St→Prop}:JZ E bF before [] σ Q=Q σ:=by simp[JZ,du]
theorem E5 {bF:List cI} {before:List (List Nat)} {o:bJ} {os:List bJ} {Q:St→Prop}:
   JZ E bF before (o::os) σ Q=pg E (dm E o) σ fun v σ' r w=>
     (fits bF (closure before o.pre) ⟨r,(match o.dst with| some d=> [.t d] | none=> [])++w⟩ bF.length &&o.pre.all (· <bF.length))=true∧
     JZ E (bF++[⟨r,(match o.dst with| some d=> [.t d] | none=> [])++w⟩]) (before++[closure before o.pre]) os (σ'.put o.dst v) Q:=by
 have key: ∀n,du E (call E n) (o::os) bF before σ=if (fits bF (closure before o.pre) (cB E (call E n) o σ) bF.length &&o.pre.all (· <bF.length))=true then
     (match ei E (call E n) o σ with| some σ'=>du E (call E n) os (bF++[cB E (call E n) o σ]) (before++[closure before o.pre]) σ'| none=>none) else none:=fun n=>rfl
 have NK: ∀n v σ0,(dm E o).run (call E n) σ=some (v,σ0)→ei E (call E n) o σ=some (σ0.put o.dst v):=fun n v σ0 h=>by simp only[ei,h]
 simp only[JZ,pg,eq_iff_iff]
 constructor
 · rintro⟨n,σ2,h,q⟩
   rw[key n] at h
   by_cases hc: (fits bF (closure before o.pre) (cB E (call E n) o σ) bF.length &&o.pre.all (· <bF.length))=true
   · rw[if_pos hc] at h
     cases h0: (dm E o).run (call E n) σ with
     | none=>simp[ei,h0] at h
     | some p=>
       obtain⟨v,σ0⟩:=p
       rw[NK n v σ0 h0] at h
       exact⟨n,v,σ0,h0,hc,n,σ2,h,q⟩
   · rw[if_neg hc] at h;simp at h
 · rintro⟨n,v,σ0,h0,hc,m,σ2,h,q⟩
   refine⟨max n m,σ2,?_,q⟩
   have e3:cB E (call E (max n m)) o σ=cB E (call E n) o σ:=by
     simp only[cB,Act.gA (fG (E:=E) (Nat.le_max_left n m)) _ _ _ h0]
   have yK: (fits bF (closure before o.pre) (cB E (call E n) o σ) bF.length &&o.pre.all (· <bF.length))=true:=hc
   rw[key,e3,if_pos yK,NK _ v σ0 (Act.gY (fG (Nat.le_max_left n m)) _ _ _ h0)]
   exact jT (fG (Nat.le_max_right n m)) h
def andThen (Q:aX→St→Prop) (k:St→Prop) (_:Tg Q k:= .mk):aX→St→Prop
 | .normal,σ=>k σ
 | .exit id,σ=>Q (.exit id) σ
 | .ret,σ=>Q .ret σ
def tI (id:Nat) (Q:aX→St→Prop) (_:Tg id Q:= .mk):aX→St→Prop
 | .exit jB,σ=>if jB=id then Q .normal σ else Q (.exit jB) σ
 | .normal,σ=>Q .normal σ
 | .ret,σ=>Q .ret σ
theorem ej {c:aW} {Q Q':aX→St→Prop} (h:ka E c σ Q) (k: ∀e σ',Q e σ'→Q' e σ'):ka E c σ Q':=by
 obtain⟨n,e,σ',h1,h2⟩:=h
 exact⟨n,e,σ',h1,k _ _ h2⟩
theorem kc {Q:aX→St→Prop}:ka E .skip σ Q=Q .normal σ:=by
 simp only[ka,eq_iff_iff]
 constructor
 · rintro⟨n,e,σ',h,q⟩
   cases n<;>simp[exec,aG] at h
   obtain⟨rfl,rfl⟩:=h;exact q
 · exact fun q=> ⟨1,_,_,by simp[exec,aG],q⟩
theorem pz {id:Nat} {Q:aX→St→Prop}:ka E (.exit id) σ Q=Q (.exit id) σ:=by
 simp only[ka,eq_iff_iff]
 constructor
 · rintro⟨n,e,σ',h,q⟩
   cases n<;>simp[exec,aG] at h
   obtain⟨rfl,rfl⟩:=h;exact q
 · exact fun q=> ⟨1,_,_,by simp[exec,aG],q⟩
theorem s7 {Q:aX→St→Prop}:ka E .ret σ Q=Q .ret σ:=by
 simp only[ka,eq_iff_iff]
 constructor
 · rintro⟨n,e,σ',h,q⟩
   cases n<;>simp[exec,aG] at h
   obtain⟨rfl,rfl⟩:=h;exact q
 · exact fun q=> ⟨1,_,_,by simp[exec,aG],q⟩
theorem nc {b:aW} {Q:aX→St→Prop}:ka E (.scope b) σ Q=ka E b σ Q:=by
 simp only[ka,eq_iff_iff]
 constructor
 · rintro⟨n,e,σ',h,q⟩
   cases n with
   | zero=>simp[exec] at h
   | succ n=>simp only[exec,aG] at h;exact⟨n,e,σ',h,q⟩
 · rintro⟨n,e,σ',h,q⟩
   exact⟨n+1,e,σ',by simpa only[exec,aG] using h,q⟩
theorem kN {ops:List bJ} {Q:aX→St→Prop}:ka E (.region ops) σ Q=Io E ops σ (Q .normal):=by
 simp only[ka,Io,eq_iff_iff]
 constructor
 · rintro⟨n,e,σ',h,q⟩
   cases n with
   | zero=>simp[exec] at h
   | succ n=>
     simp only[exec,aG,Option.map_eq_some_iff] at h
     obtain⟨σ1,h1,h2⟩:=h
     injection h2 with h2 h3
     subst h2 h3
     exact⟨n,_,h1,q⟩
 · rintro⟨n,σ',h,q⟩
   exact⟨n+1,_,σ',by simp only[exec,aG,Option.map_eq_some_iff];exact⟨σ',h,rfl⟩,q⟩
theorem Di {ops:List bJ} {Q:aX→St→Prop}:ka E (.drawn ops) σ Q=JZ E [] [] ops σ (Q .normal):=by
 simp only[ka,JZ,eq_iff_iff]
 constructor
 · rintro⟨n,e,σ',h,q⟩
   cases n with
   | zero=>simp[exec] at h
   | succ n=>
     simp only[exec,aG,Option.map_eq_some_iff] at h
     obtain⟨σ1,h1,h2⟩:=h
     injection h2 with h2 h3
     subst h2 h3
     exact⟨n,_,h1,q⟩
 · rintro⟨n,σ',h,q⟩
   exact⟨n+1,_,σ',by simp only[exec,aG,Option.map_eq_some_iff];exact⟨σ',h,rfl⟩,q⟩
theorem nd {a b:aW} {Q:aX→St→Prop}:ka E (.seq a b) σ Q=ka E a σ (andThen Q fun σ'=>ka E b σ' Q):=by
 simp only[ka,eq_iff_iff]
 constructor
 · rintro⟨n,e,σ',h,q⟩
   cases n with
   | zero=>simp[exec] at h
   | succ n=>
     simp only[exec,aG] at h
     split at h
     · rename_i σ1 h1
       exact⟨n,_,_,h1,n,e,σ',h,q⟩
     · rename_i hn
       refine⟨n,e,σ',h,?_⟩
       cases e with
       | normal=>exact absurd h (by simpa using hn σ')
       | exit id=>exact q
       | ret=>exact q
 · rintro⟨n,e,σ1,h,q⟩
   cases e with
   | normal=>
     obtain⟨m,e,σ',h',q⟩:=q
     refine⟨max n m+1,e,σ',?_,q⟩
     simp only[exec,aG,cp (Nat.le_max_left n m) _ _ _ h]
     exact cp (Nat.le_max_right n m) _ _ _ h'
   | exit id=>exact⟨n+1,_,_,by simp only[exec,aG,h],q⟩
   | ret=>exact⟨n+1,_,_,by simp only[exec,aG,h],q⟩
theorem pA {c:aQ} {a b:aW} {Q:aX→St→Prop}:ka E (.cond c a b) σ Q=match a8 σ c with| .bool true=>ka E a σ Q| .bool false=>ka E b σ Q| _=>False:=by
 simp only[ka,eq_iff_iff]
 constructor
 · rintro⟨n,e,σ',h,q⟩
   cases n with
   | zero=>simp[exec] at h
   | succ n=>
     simp only[exec,aG] at h
     split at h
     · rename_i he;simp only[he];exact⟨n,e,σ',h,q⟩
     · rename_i he;simp only[he];exact⟨n,e,σ',h,q⟩
     · simp at h
 · intro h
   split at h
   · rename_i he
     obtain⟨n,e,σ',h,q⟩:=h
     exact⟨n+1,e,σ',by simp only[exec,aG,he];exact h,q⟩
   · rename_i he
     obtain⟨n,e,σ',h,q⟩:=h
     exact⟨n+1,e,σ',by simp only[exec,aG,he];exact h,q⟩
   · exact h.elim
theorem ng {id:Nat} {b:aW} {Q:aX→St→Prop}:ka E (.block id b) σ Q=ka E b σ (tI id Q):=by
 simp only[ka,eq_iff_iff]
 constructor
 · rintro⟨n,e,σ',h,q⟩
   cases n with
   | zero=>simp[exec] at h
   | succ n=>
     simp only[exec,aG] at h
     split at h
     · rename_i jB σ1 h1
       refine⟨n,_,_,h1,?_⟩
       simp only[tI]
       split at h
       · rename_i hi
         simp only[Option.some.injEq,Prod.mk.injEq] at h
         obtain⟨rfl,rfl⟩:=h
         simp only[hi,if_true];exact q
       · rename_i hi
         simp only[Option.some.injEq,Prod.mk.injEq] at h
         obtain⟨rfl,rfl⟩:=h
         simp only[hi,if_false];exact q
     · rename_i hn
       refine⟨n,e,σ',h,?_⟩
       cases e with
       | exit jB=>exact absurd h (by simpa using hn jB σ')
       | normal=>exact q
       | ret=>exact q
 · rintro⟨n,e,σ1,h,q⟩
   cases e with
   | exit jB=>
     simp only[tI] at q
     by_cases hi:jB=id
     · simp only[hi,if_true] at q
       exact⟨n+1,_,_,by simp only[exec,aG,h,hi,if_true],q⟩
     · simp only[hi,if_false] at q
       exact⟨n+1,_,_,by simp only[exec,aG,h,hi,if_false],q⟩
   | normal=>exact⟨n+1,_,_,by simp only[exec,aG,h],q⟩
   | ret=>exact⟨n+1,_,_,by simp only[exec,aG,h],q⟩
theorem E6 {b:aW} {Q:aX→St→Prop}:ka E (.loop b) σ Q=ka E b σ (andThen Q fun σ'=>ka E (.loop b) σ' Q):=by
 simp only[ka,eq_iff_iff]
 constructor
 · rintro⟨n,e,σ',h,q⟩
   cases n with
   | zero=>simp[exec] at h
   | succ n=>
     simp only[exec,aG] at h
     split at h
     · rename_i σ1 h1
       exact⟨n,_,_,h1,n,e,σ',h,q⟩
     · rename_i hn
       refine⟨n,e,σ',h,?_⟩
       cases e with
       | normal=>exact absurd h (by simpa using hn σ')
       | exit id=>exact q
       | ret=>exact q
 · rintro⟨n,e,σ1,h,q⟩
   cases e with
   | normal=>
     obtain⟨m,e,σ',h',q⟩:=q
     refine⟨max n m+1,e,σ',?_,q⟩
     simp only[exec,aG,cp (Nat.le_max_left n m) _ _ _ h]
     exact cp (Nat.le_max_right n m) _ _ _ h'
   | exit id=>exact⟨n+1,_,_,by simp only[exec,aG,h],q⟩
   | ret=>exact⟨n+1,_,_,by simp only[exec,aG,h],q⟩
theorem rO {b:aW} {Q:aX→St→Prop} (I:Nat→St→Prop) (hI: ∀k σ,I k σ→ka E b σ (andThen Q fun σ'=> ∃j,j<k∧I j σ')):
   ∀ (k:Nat) (σ:St),I k σ→ka E (.loop b) σ Q:=by
 intro k
 induction k using Nat.strongRecOn with
 | _ k ih=>
   intro σ h
   rw[E6]
   refine ej (hI k σ h) fun e σ' he=> ?_
   cases e with
   | normal=>obtain⟨j,hj,h'⟩:=he;exact ih j hj σ' h'
   | exit id=>exact he
   | ret=>exact he
def fin (rs:List pB) (args:List V) (res:dk):aX→St→Prop
 | .exit _,_=>False
 | .normal,σ=>leave ⟨0,0,[],rs,.skip,none⟩ args σ=some res
 | .ret,σ=>leave ⟨0,0,[],rs,.skip,none⟩ args σ=some res
theorem Ev.ext {f:Nat} {args:List V} {res:dk} (h:E.ext f args=some res) (hh:E.hyb f=none:=by rfl):Ev E f args res:=⟨0,by simp[call,dw,iY,h,hh]⟩
end
end Go.AM
namespace Go.AM
section
variable {E:Env} {σ:St}
def kP (E:Env):List bJ→St→(List cI→St→Prop)→Prop
 | [],σ,Q=>Q [] σ
 | o::os,σ,Q=>pg E (dm E o) σ fun v σ' r w=>kP E os (σ'.put o.dst v) fun fs σ''=>Q (⟨r,(match o.dst with| some d=> [.t d] | none=> [])++w⟩::fs) σ''
def NL (E:Env) (os:List bJ) (σ:St) (Q:List cI→St→Prop) (_:Tg os (σ,Q):= .mk):Prop:=kP E os σ Q
def qO (d:Option Nat) (w:List Loc):List Loc:=match d with| some d=> .t d::w| none=>w
theorem s8 {Q:List cI→St→Prop}:NL E [] σ Q=Q [] σ:=rfl
theorem pC {o:bJ} {os:List bJ} {Q:List cI→St→Prop}:NL E (o::os) σ Q=pg E (dm E o) σ fun v σ' r w=>NL E os (σ'.put o.dst v) fun fs σ''=>Q (⟨r,qO o.dst w⟩::fs) σ'':=by
 have: ∀w,(match o.dst with| some d=> [Loc.t d] | none=> [])++w=qO o.dst w:=by intro w;cases o.dst<;>rfl
 have h2: (fun (v:V) (σ':St) (r w:List Loc)=>kP E os (σ'.put o.dst v) fun fs σ''=>Q (⟨r,(match o.dst with| some d=> [.t d] | none=> [])++w⟩::fs) σ'')=(fun v σ' r w=>kP E os (σ'.put o.dst v) fun fs σ''=>Q (⟨r,qO o.dst w⟩::fs) σ''):=by
  funext v σ' r w;rw[this]
 show pg E (dm E o) σ (fun (v:V) (σ':St) (r w:List Loc)=>kP E os (σ'.put o.dst v) fun fs σ''=>Q (⟨r,(match o.dst with| some d=> [.t d] | none=> [])++w⟩::fs) σ'')=_
 rw[h2];rfl
def Dj:List (List Nat)→List (List Nat)→List cI→List cI→Bool
 | [],_,_,_=>true
 | p::ps,before,bF,f::rest=> (fits bF (closure before p) f bF.length &&p.all (· <bF.length)) &&Dj ps (before++[closure before p]) (bF++[f]) rest
 | _::_,_,_,[]=>false
theorem ke {a:Act} {Q Q':V→St→List Loc→List Loc→Prop} (h:pg E a σ Q) (k: ∀v σ' r w,Q v σ' r w→Q' v σ' r w):pg E a σ Q':=by
 obtain⟨n,v,σ',h1,h2⟩:=h
 exact⟨n,v,σ',h1,k _ _ _ _ h2⟩
theorem gZ: ∀ {os:List bJ} {σ:St} {Q Q':List cI→St→Prop},kP E os σ Q→(∀fs σ',Q fs σ'→Q' fs σ')→kP E os σ Q'
 | [],_,_,_,h,k=>k _ _ h
 | o::os,_,_,_,h,k=>by
   simp only[kP] at h ⊢
   exact ke h fun v σ' r w h'=>gZ h' fun fs σ'' h''=>k _ _ h''
theorem E7 {Q:St→Prop}: ∀ {os:List bJ} {σ:St} {bF:List cI} {before:List (List Nat)},
   kP E os σ (fun fs σ'=>Dj (os.map (·.pre)) before bF fs=true∧Q σ')→JZ E bF before os σ Q
 | [],_,_,_,h=>by rw[Ip];exact h.2
 | o::os,σ,bF,before,h=>by
   rw[E5]
   simp only[kP,List.map_cons,Dj,Bool.and_eq_true] at h
   refine ke h fun v σ' r w h'=> ?_
   have h1:kP E os (σ'.put o.dst v) (fun fs σ''=> (fits bF (closure before o.pre) ⟨r,(match o.dst with| some d=> [.t d] | none=> [])++w⟩ bF.length &&o.pre.all (· <bF.length))=true):=
    gZ h' fun fs σ'' hh=>by
      have:=hh.1
      simp only[List.map_cons,Dj,Bool.and_eq_true] at this
      simp only[Bool.and_eq_true];exact this.1
   have const: ∀ {os:List bJ} {σ:St} {p:Prop},kP E os σ (fun _ _=>p)→p:=by
    intro os
    induction os with
    | nil=>intro σ p h;exact h
    | cons o os ih=>
      intro σ p h
      simp only[kP] at h
      obtain⟨n,v,σ',_,h2⟩:=h
      exact ih h2
   refine⟨const h1,E7 (gZ h' fun fs σ'' hh=> ⟨by have:=hh.1;simp only[List.map_cons,Dj,Bool.and_eq_true] at this;exact this.2,hh.2⟩)⟩
theorem pD {ops:List bJ} {Q:aX→St→Prop} (h:NL E ops σ (fun fs σ'=>Dj (ops.map (·.pre)) [] [] fs=true∧Q .normal σ')):ka E (.drawn ops) σ Q:=by
 rw[Di];exact E7 h
theorem E8 {d t:Nat} {v:V}: (σ.put (some d) v).T t=if t=d then v else σ.T t:=rfl
theorem E9 {d:Option Nat} {r:Nat} {v:V}: (σ.put d v).O r=σ.O r:=by cases d<;>rfl
theorem tJ {v:V}:σ.put none v=σ:=rfl
theorem AX {r t:Nat} {o:Obj}: (σ.bo r o).T t=σ.T t:=rfl
theorem AY {r r':Nat} {o:Obj}: (σ.bo r o).O r'=if r'=r then o else σ.O r':=rfl
theorem jD {t:Nat}:a8 σ (.tmp t)=σ.T t:=rfl
theorem gS {v:V}:a8 σ (.const v)=v:=rfl
theorem gT: ∀ {cs:List V},V.aq cs=true→ ∀ {x:V},x ∈ cs→x.aB=true
 | [],_,x,h=>by simp at h
 | c::cs,h,x,hx=>by
   simp only[V.aq,Bool.and_eq_true] at h
   rcases List.mem_cons.1 hx with rfl| hx
   · exact h.1
   · exact gT h.2 hx
theorem oD: ∀ {cs:List V},(∀x ∈ cs,V.aB x=true)→V.aq cs=true
 | [],_=>rfl
 | c::cs,h=>by
   simp only[V.aq,Bool.and_eq_true]
   exact⟨h c (by simp),oD fun x hx=>h x (by simp[hx])⟩
theorem fD {args:List V} (h:V.aq args=true):enter args=⟨fun t=>args.getD t dC,fun _=>bB⟩:=by
 have key: ∀ (t:Nat) (a:V),args[t]? =some a→a.aB=true:=fun t a ht=>gT h (List.mem_of_getElem? ht)
 unfold enter
 congr 1
 · funext t
   cases ha:args[t]? with
   | none=>simp[List.getD,ha]
   | some a=>have:=key t a ha;simp only[List.getD,ha,Option.getD_some];cases a<;>simp_all[V.aB]
 · funext t
   cases ha:args[t]? with
   | none=>rfl
   | some a=>have:=key t a ha;cases a<;>simp_all[V.aB]
theorem AZ {d:Nat} {v:V} {k:V→List Nat→Act} (h:v.aB=true):dh d v k=k v []:=by
 cases d<;>simp[dh,h]
theorem iZ {bg:Bool} {r:Nat} {gs:List (Nat×Nat×Nat)} {v:V} {k:V→Act} (h:v.aB=true):bT bg r gs v k=k v:=by
 simp[bT,h]
end
def tK (sz gr:Nat):List V→Option dk
 | [.nils]=>some ⟨.own sz [],[]⟩
 | [.lit sz' xs]=>if sz'=sz∧xs.length≤gr then some ⟨.own sz xs,[]⟩ else none
 | _=>none
def yP:List V→Option dk
 | [.float b]=>match FloatKind.f64.format.sqrt b with
   | some r=>some ⟨.float r,[]⟩
   | none=>none
 | _=>none
theorem tL {v:V} {k:V→Act} (h:v.aB=true):sM v k=k v:=by
 cases v<;>simp_all[sM]
theorem fH {O:Nat→Obj}: ∀ {args:List V} {i:Nat},V.aq args=true→bO O i args=some []
 | [],_,_=>rfl
 | a::as,i,h=>by
   simp only[V.aq,Bool.and_eq_true] at h
   have:=fH (O:=O) (i:=i+1) h.2
   cases a<;>simp_all[bO,V.aB]
theorem kQ {n:Nat} {σ:St} {v:V} (h:v.aB=true):cu n σ v=some (v,[]):=by
 simp[cu,h]
theorem qP {sz:Nat} {v:V} (h:v.aK=true):part false 0 sz v=some v:=by
 cases v<;>simp_all[part,V.aK]
def yQ (sz:Nat) (xs:List V) (v:V):Prop:=v= .lit sz xs∨v= .nils∧xs=[]
theorem yQ.pure {sz:Nat} {xs:List V} {v:V} (h:yQ sz xs v):v.aB=true:=by
 rcases h with rfl| ⟨rfl,_⟩ <;>rfl
theorem yQ.len {sz:Nat} {xs:List V} {v:V} (h:yQ sz xs v):nM v=some (.int .i64 xs.length):=by
 rcases h with rfl| ⟨rfl,rfl⟩ <;>rfl
theorem yQ.lit {sz:Nat} {xs:List V}:yQ sz xs (.lit sz xs):= .inl rfl
theorem yQ.aK {sz:Nat} {xs:List V} {v:V} (h:yQ sz xs v):v.aK=true:=by
 rcases h with rfl| ⟨rfl,_⟩ <;>rfl
def gB (sz:Nat) (v i:V):Act:=
 match v,i with
 | .sl r g off len,.int _ n=> .bG r fun o=>if 0≤n∧n<len∧o.sz=sz∧o.gen=g then .done (.ptr r g (off+n.toNat) 0) else .fail
 | .lit sz' xs,.int _ n=>if 0≤n∧sz'=sz then match xs[n.toNat]? with
    | some e=> .done (.eptr e 0)
    | none=> .fail
   else .fail
 | .litk sz' xs,.int _ n=>if 0≤n∧sz'=sz∧0 <sz then match xs[n.toNat]? with
    | some e=> .done (.epk n.toNat sz e 0)
    | none=> .fail
   else .fail
 | _,_=> .fail
theorem gU {E:Env} {sz:Nat} {x i:aQ}:aw E (.indexAddr sz x i)=ev x fun v=>ev i fun i=>gB sz v i:=rfl
def oE ( sz:Nat) (v:V) (l h m:Option V):Act:=
 match v with
 | .sl r g off len=> .bG r fun o=>match o.es with
   | some es=>if o.gen=g∧o.sz=sz then
      match bC 0 l,bC len h,m with
      | some l,some h,none=>if l≤h∧off+h≤es.length then .done (.sl r g (off+l) (h - l)) else .fail
      | some l,some h',some m=>match h,bC 0 (some m) with
        | some _,some m=>if l≤h'∧h'≤m∧off+m≤es.length then .done (if m=l then .nils else .any) else .fail
        | _,_=> .fail
      | _,_,_=> .fail
     else .fail
   | none=> .fail
 | v=>cz (ja sz v l h m)
theorem ni {E:Env} {sz:Nat} {x:aQ} {lo hi mx:Option aQ}:aw E (.slice sz x lo hi mx)=ev x fun v=>vE lo fun l=>vE hi fun h=>vE mx fun m=>oE sz v l h m:=rfl
def tM (r sz gr:Nat) (s:V) (ys:List V):Act:=
 if ys.all (aO · sz) &&decide (0 <sz) then match s with
  | .nils=>if ys.isEmpty then .done .nils else if ys.length≤gr then
      .bG r fun o=> .bo r {gen:=o.gen+1,sz,arr:=true,fz:=false,es:=some ys} (.done (.sl r (o.gen+1) 0 ys.length)) else .fail
  | .lit sz' xs=>if ys.isEmpty then .done (.lit sz' xs) else .fail
  | .sl r' g off len=> .bG r' fun o=>match o.es with
    | some es=>if o.gen=g∧o.arr=true∧o.fz=false∧o.sz=sz∧off+len≤es.length∧len+ys.length≤gr then
        if off+len+ys.length≤es.length then
             .bo r' {o with es:=some (overwrite es (off+len) ys)} (.done (.sl r' g off (len+ys.length)))
        else
             .bo r' {o with gen:=g+1,es:=some (aJ es off len++ys)} (.done (.sl r' (g+1) 0 (len+ys.length)))
      else .fail
    | none=> .fail
  | _=> .fail
  else .fail
theorem kR {E:Env} {r sz gr:Nat} {s x:aQ}:aw E (.append r sz gr s x)=ev s fun s=>ev x fun x=>content sz x fun ys=>iH ys fun ys=>tM r sz gr s ys:=rfl
theorem qQ {ys:List V} {k:List V→Act} (h:V.aq ys=true):iH ys k=k ys:=by simp[iH,h]
theorem Fa {r sz gr r' g off len:Nat} {ys:List V} (h:ys.all (aO · sz)=true) (h0:0 <sz):tM r sz gr (.sl r' g off len) ys= .bG r' fun o=>match o.es with
  | some es=>if o.gen=g∧o.arr=true∧o.fz=false∧o.sz=sz∧off+len≤es.length∧len+ys.length≤gr then
     if off+len+ys.length≤es.length then
      .bo r' {o with es:=some (overwrite es (off+len) ys)} (.done (.sl r' g off (len+ys.length)))
     else
      .bo r' {o with gen:=g+1,es:=some (aJ es off len++ys)} (.done (.sl r' (g+1) 0 (len+ys.length)))
    else .fail
  | none=> .fail:=by
 simp only[tM]
 rw[h];simp[h0]
theorem gC {α:Type} (f:α→V) (l:List α) (a b:Nat):AM.aJ (l.map f) a b=((l.drop a).take b).map f:=by
 simp[AM.aJ,List.map_take,List.map_drop]
theorem kS {xs:List V} {n:Nat} (h:n=xs.length):AM.aJ xs 0 n=xs:=by
 subst h;simp[AM.aJ]
def firstIdx {α:Type} (p:α→Bool) (xs:List α):Int:=match xs.findIdx? p with
 | some i=>i
 | none=> -1
theorem di {α:Type} {p:α→Bool} {xs:List α} {i:Nat} {x:α} (h: ∀j y,j<i→xs[j]? =some y→p y=false) (hx:xs[i]? =some x) (hp:p x=true):firstIdx p xs=i:=by
 have:xs.findIdx? p=some i:=by
  rw[List.findIdx?_eq_some_iff_getElem]
  obtain⟨hl,hv⟩:=List.getElem?_eq_some_iff.1 hx
  refine⟨hl,by rw[hv];exact hp,fun j hj=> ?_⟩
  have:=h j _ hj (List.getElem?_eq_getElem (by omega))
  simp[this]
 simp[firstIdx,this]
theorem firstIdx_none {α:Type} {p:α→Bool} {xs:List α} (h: ∀ (j:Nat) (y:α),xs[j]? =some y→p y=false):firstIdx p xs= -1:=by
 have:xs.findIdx? p=none:=by
  rw[List.findIdx?_eq_none_iff]
  intro x hx
  obtain⟨j,hj⟩:=List.mem_iff_getElem?.1 hx
  exact h j x hj
 simp[firstIdx,this]
theorem pE (a b:Int): (a==b)=decide (a=b):=by
 by_cases h:a=b
 · simp[h]
 · simp[h]
theorem xo (a b:Int): (a !=b)= !decide (a=b):=by simp[bne,pE]
theorem wrap64 {n:Int} (h0: -9223372036854775808≤n) (h1:n≤9223372036854775807):IntKind.i64.wrap n=n:=by
 simp[IntKind.wrap,IntKind.bits,IntKind.signed]
 omega
attribute [go_sem] nd kN kc pz s7 nc ng pA pq s6 pC s8 dm gU ni kR aw.jE tD tE tF pn po tG xm pt ma pw lZ pr tH xn aO V.cJ V.aB V.aq V.isScalar V.bb tL fH kQ iZ qP E8 E9 AX AY tJ qO bB andThen tI jD gS Fb dC dk.mk.injEq V.int.injEq V.tuple.injEq List.cons.injEq V.bool.injEq V.str.injEq V.agg.injEq List.getD_cons_zero List.getD_cons_succ List.getD_nil List.length_cons List.length_nil List.getElem?_cons_zero List.getElem?_cons_succ List.set_cons_zero List.set_cons_succ List.take_succ_cons List.take_zero List.drop_succ_cons List.drop_zero List.take_nil List.drop_nil List.cons_append List.nil_append List.append_nil Nat.zero_add Nat.add_zero BEq.rfl Bool.true_or Bool.or_true Bool.false_or Bool.or_false Bool.and_true Bool.true_and Bool.and_false Bool.false_and Bool.and_self Bool.or_self Bool.false_eq_true Bool.true_eq_false Bool.not_true Bool.not_false Nat.lt_add_one Nat.le_refl decide_true decide_false decide_eq_true_eq if_true if_false true_and and_true and_self false_and and_false Nat.sub_zero Option.some.injEq Nat.zero_lt_one Nat.lt_irrefl ne_eq not_true_eq_false not_false_eq_true V.cells.eq_1 V.cells.eq_2 V.isAgg.eq_1 V.isAgg.eq_2 V.aK.eq_1 V.aK.eq_2 V.aK.eq_3 V.aK.eq_4 V.aK.eq_5 V.aK.eq_6 V.aK.eq_7 V.isTuple.eq_1 V.isTuple.eq_2 AM.part.eq_1 AM.part.eq_2 AM.part.eq_3 AM.part.eq_4 AM.cP.eq_1 AM.cP.eq_2 AM.cP.eq_3 AM.cP.eq_4 nM.eq_1 nM.eq_2 nM.eq_3 nM.eq_4 bC.eq_1 bC.eq_2 bC.eq_3 eu.eq_1 eu.eq_2 content.eq_1 content.eq_2 content.eq_3 content.eq_4 content.eq_5 de.eq_1 de.eq_2 b6.eq_1 b6.eq_2 sM.eq_1 sM.eq_2 b8.eq_1 b8.eq_2 b8.eq_3 b8.eq_4 b8.eq_5 b8.eq_6 dN.eq_1 dN.eq_2 iH.eq_1 iH.go.eq_1 iH.go.eq_2 bT.eq_1 bT.eq_2 dJ.eq_1 dJ.eq_2 dx.eq_1 dx.eq_2 bL.eq_1 bL.eq_2 bL.eq_3 cm.eq_1 cm.eq_2 bH.eq_1 bH.eq_2 br.eq_1 br.eq_2 cu.eq_1 cu.eq_2 cu.eq_3 b9.eq_1 b9.eq_2 ek.eq_1 ek.eq_2 cG.eq_1 cG.eq_2 bO.eq_1 bO.eq_2 bO.eq_3 bO.eq_4 bU.eq_1 bU.eq_2 bU.eq_3 bU.eq_4 bU.eq_5 bU.eq_6 bU.eq_7 bU.eq_8 bU.eq_9 bU.eq_10 bU.eq_11 bU.eq_12 bU.eq_13 bU.eq_14 bU.eq_15 bU.eq_16 bU.eq_17 bU.eq_18 bU.eq_19 bU.eq_20 bU.eq_21 cZ.eq_1 cZ.eq_2 cZ.eq_3 cZ.eq_4 cZ.eq_5 cZ.eq_6 cZ.eq_7 A0.eq_1 A0.eq_2 A0.eq_3 A0.eq_4 min2.eq_1 min2.eq_2 max2.eq_1 max2.eq_2 gu.eq_1 gu.eq_2 fS.eq_1 fS.eq_2 vM.eq_1 vM.eq_2 vM.eq_3 vM.eq_4 ez.eq_1 ez.eq_2 ez.eq_3 eE.eq_1 eE.eq_2 dK.eq_1 dK.eq_2 ev.eq_1 ev.eq_2 fg.eq_1 fg.eq_2 vE.eq_1 vE.eq_2 gB.eq_1 gB.eq_2 gB.eq_3 cz.eq_1 cz.eq_2 leave.eq_1 distinct.eq_1 distinct.eq_2 fin.eq_1 fin.eq_2 fin.eq_3 aw.eq_1 aw.eq_2 aw.eq_3 aw.eq_4 aw.eq_5 aw.eq_6 aw.eq_7 aw.eq_8 aw.eq_9 aw.eq_10 aw.eq_11 aw.eq_12 aw.eq_13 aw.eq_14 aw.eq_15 aw.eq_16 aw.eq_17 aw.eq_18 aw.eq_19 aw.eq_20 aw.eq_21 aw.eq_23 aw.eq_24 aw.eq_26 aw.eq_27 aw.eq_28 aw.eq_29 aw.eq_30 aw.eq_31 aw.eq_32 aw.eq_34 aw.eq_35 aw.eq_36 aw.eq_37 aw.eq_38 oE.eq_1 apart b7.eq_1 b7.eq_2 cn.eq_1 cn.eq_2 cn.eq_3 eW.eq_1 eW.eq_2 List.map_nil List.map_cons List.all_nil List.all_cons List.contains_nil List.contains_cons ja.eq_1 ja.eq_2 Option.isSome_some Option.isSome_none Option.isNone_none Option.isNone_some pE xo bne_self_eq_false Bool.bne_true Bool.bne_false Bool.true_bne Bool.false_bne kS List.isEmpty_cons List.isEmpty_nil eq_self List.replicate_succ List.replicate_zero qQ Int.cast_ofNat_Int Int.toNat_zero Int.toNat_one Int.neg_ofNat_le_ofNat Int.natCast_nonneg Int.toNat_natCast Int.toNat_natCast_add_one Int.ofNat_lt wrap64 Int.le_refl
end Go.AM
namespace Go.AM
section
variable {α:Type}
end
end Go.AM
namespace Go.AM
def NM (tab:List (Nat×aA)) (f:Nat):Option aA:=(tab.find? (·.1==f)).map (·.2)
def J0 (tab:List (Nat× (List V→Option dk))) (f:Nat) (as:List V):Option dk:=match tab.find? (·.1==f) with
 | some p=>p.2 as
 | none=>none
structure Lj where
 h: (Nat→List V→Option dk)→List V→Option dk
 mono: ∀ (C C':Nat→List V→Option dk),(∀g vs r,C g vs=some r→C' g vs=some r)→ ∀vs r,h C vs=some r→h C' vs=some r
def Cn (tab:List (Nat×Lj)) (f:Nat):Option ((Nat→List V→Option dk)→List V→Option dk):=(tab.find? (·.1==f)).map (·.2.h)
theorem A3 (tab:List (Nat×Lj)): ∀f h,Cn tab f=some h→ ∀ (C C':Nat→List V→Option dk),(∀g vs r,C g vs=some r→C' g vs=some r)→ ∀vs r,h C vs=some r→h C' vs=some r:=by
 intro f h hf
 unfold Cn at hf
 rw[Option.map_eq_some_iff] at hf
 obtain⟨p,_,rfl⟩:=hf
 exact p.2.mono
def Fc (tab:List (Nat× (List V→Option (List (List V))))) (g:Nat) (caps:List V):Option (List (List V)):=match tab.find? (·.1==g) with
 | some p=>p.2 caps
 | none=>none
def Nj (tab:List (Nat×aA)) (ext:List (Nat× (List V→Option dk))) (hyb:List (Nat×Lj)) (iter:List (Nat× (List V→Option (List (List V))))):Env:={fn:=NM tab,ext:=J0 ext,hyb:=Cn hyb,mono:=A3 hyb,iter:=Fc iter}
abbrev op (d:Nat) (x:rP) (p:List Nat):bJ:=⟨some d,x,none,p⟩
end Go.AM
namespace Go.AM
end Go.AM
namespace Go.AM
end Go.AM
namespace Go.AM
structure SS where
 T:List (Nat×V)
 O:List (Nat×Obj)
def lk {α:Type}:List (Nat×α)→Nat→Option α
 | [],_=>none
 | (k,v)::l,n=>bif Nat.beq k n then some v else lk l n
def SS.On (S:SS) (σ:St):Prop:=(∀t v,lk S.T t=some v→σ.T t=v)∧(∀r o,lk S.O r=some o→σ.O r=o)
def SS.put (S:SS) (d:Option Nat) (v:V):SS:=match d with
 | some d=> ⟨(d,v)::S.T,S.O⟩
 | none=>S
def SS.bo (S:SS) (r:Nat) (o:Obj):SS:=⟨S.T,(r,o)::S.O⟩
theorem kU {α:Type} {p:Nat×α} {l:List (Nat×α)} {n:Nat}:lk (p::l) n=if p.1=n then some p.2 else lk l n:=by
 obtain⟨k,v⟩:=p
 simp only[lk]
 by_cases h:k=n
 · simp[h]
 · have:Nat.beq k n=false:=by
    cases hb:Nat.beq k n with
    | false=>rfl
    | true=>exact absurd (Nat.eq_of_beq_eq_true hb) h
   simp[h,this]
theorem SS.On.put {S:SS} {σ:St} (h:S.On σ) (d:Option Nat) (v:V): (S.put d v).On (σ.put d v):=by
 cases d with
 | none=>exact h
 | some d=>
   refine⟨fun t x hx=> ?_,fun r o ho=> ?_⟩
   · simp only[SS.put,kU] at hx
     show dg σ.T d v t=x
     unfold dg
     by_cases e:d=t
     · simp only[e,if_true,Option.some.injEq] at hx ⊢;exact hx
     · rw[if_neg e] at hx;rw[if_neg (Ne.symm e)];exact h.1 t x hx
   · exact h.2 r o ho
theorem SS.On.bo {S:SS} {σ:St} (h:S.On σ) (r:Nat) (o:Obj): (S.bo r o).On (σ.bo r o):=by
 refine⟨fun t x hx=>h.1 t x hx,fun r' x hx=> ?_⟩
 simp only[SS.bo,kU] at hx
 show dg σ.O r o r'=x
 unfold dg
 by_cases e:r=r'
 · simp only[e,if_true,Option.some.injEq] at hx ⊢;exact hx
 · rw[if_neg e] at hx;rw[if_neg (Ne.symm e)];exact h.2 r' x hx
inductive bj:Type 1 where
 | done (v:V)
 | fail
 | lQ (t:Nat) (k:V→bj)
 | bG (r:Nat) (k:Obj→bj)
 | bo (r:Nat) (o:Obj) (k:bj)
 | jU (r:Nat) (k:Nat→bj)
 | call (f:Nat) (args:List V) (k:dk→bj)
 | bD (p:Prop) (k:bj)
 | ex (α:Type) (p:α→Prop) (k:α→bj)
 | ite (b:Bool) (x y:bj)
 | alt (x y:bj)
 | all (k:Nat→bj)
 | Nk (a:Act)
def Ref:bj→Act→Prop
 | .done v,a=>a= .done v
 | .fail,_=>True
 | .lQ t k,a=> ∃k0,a= .lQ t k0∧ ∀v,Ref (k v) (k0 v)
 | .bG r k,a=> ∃k0,a= .bG r k0∧ ∀o,Ref (k o) (k0 o)
 | .bo r o k,a=> ∃k0,a= .bo r o k0∧Ref k k0
 | .jU r k,a=> ∃k0,a= .bG r k0∧ ∀o:Obj,Ref (k (o.gen+1)) (k0 o)
 | .call f as k,a=> ∃k0,a= .call f as k0∧ ∀res,Ref (k res) (k0 res)
 | .bD p k,a=>p→Ref k a
 | .ex _ p k,a=> ∀x,p x→Ref (k x) a
 | .ite b x y,a=> (b=true→Ref x a)∧(b=false→Ref y a)
 | .alt x y,a=>Ref x a∧Ref y a
 | .all k,a=> ∃n,Ref (k n) a
 | .Nk b,a=>a=b
structure eA (p q:Prop):Prop where
 side:p
 rest:q
inductive aN {α:Type} (p q:α→Prop):Prop
 | mk (x:α) (h:p x) (k:q x)
structure Br (b:Bool) (p q:Prop):Prop where
 yes:b=true→p
 no:b=false→q
inductive ah (E:Env) (f:Nat) (as:List V) (q:dk→Prop):Prop
 | mk (res:dk) (h:Ev E f as res) (k:q res)
theorem Br.tt {p q:Prop} (h:p):Br true p q:=⟨fun _=>h,fun h=>by cases h⟩
theorem Br.ff {p q:Prop} (h:q):Br false p q:=⟨fun h=> (by cases h),fun _=>h⟩
theorem Br.dec {c:Prop} {_:Decidable c} {p q:Prop} (h:c→p) (k: ¬c→q):Br (decide c) p q:=⟨fun e=>h (of_decide_eq_true e),fun e=>k (of_decide_eq_false e)⟩
theorem Br.Zi {c:Prop} {_:Decidable c} {p q:Prop} (h: ¬c→p) (k:c→q):Br (!decide c) p q:=by
 refine⟨fun e=>h ?_,fun e=>k ?_⟩
 · simpa using e
 · simpa using e
theorem Br.t {c:Prop} {_:Decidable c} {p q:Prop} (h:c) (k:p):Br (decide c) p q:=⟨fun _=>k,fun e=>absurd h (of_decide_eq_false e)⟩
theorem Br.f {c:Prop} {_:Decidable c} {p q:Prop} (h: ¬c) (k:q):Br (decide c) p q:=⟨fun e=>absurd (of_decide_eq_true e) h,fun _=>k⟩
theorem Br.nt {c:Prop} {_:Decidable c} {p q:Prop} (h: ¬c) (k:p):Br (!decide c) p q:=⟨fun _=>k,fun e=>absurd ((by simpa using e:c)) h⟩
theorem Br.nf {c:Prop} {_:Decidable c} {p q:Prop} (h:c) (k:q):Br (!decide c) p q:=⟨fun e=>absurd h ((by simpa using e: ¬c)),fun _=>k⟩
theorem Br.bt {b:Bool} {p q:Prop} (h:b=true) (k:p):Br b p q:=⟨fun _=>k,fun e=> (by rw[h] at e;cases e)⟩
theorem Br.bf {b:Bool} {p q:Prop} (h:b=false) (k:q):Br b p q:=⟨fun e=> (by rw[h] at e;cases e),fun _=>k⟩
abbrev KK:=V→SS→List Loc→List Loc→Prop
structure NN (E:Env) (a:Act) (S:SS) (Q:KK):Prop where
 h: ∀σ,S.On σ→pg E a σ fun v σ' r w=> ∃S',S'.On σ'∧Q v S' r w
def en (E:Env):bj→SS→KK→Prop
 | .done v,S,Q=>Q v S [] []
 | .fail,_,_=>False
 | .lQ t k,S,Q=>match lk S.T t with
   | some v=>en E (k v) S fun v S' r w=>Q v S' (.t t::r) w
   | none=>False
 | .bG t k,S,Q=>match lk S.O t with
   | some v=>en E (k v) S fun v S' r w=>Q v S' (.o t::r) w
   | none=>False
 | .bo t o k,S,Q=>match S with
   | ⟨T,O⟩=>en E k ⟨T,(t,o)::O⟩ fun v S' r w=>Q v S' r (.o t::w)
 | .jU t k,S,Q=> ∀g:Nat,en E (k g) S fun v S' r w=>Q v S' (.o t::r) w
 | .call f as k,S,Q=>ah E f as fun res=>en E (k res) S Q
 | .bD p k,S,Q=>eA p (en E k S Q)
 | .ex _ p k,S,Q=>aN p fun x=>en E (k x) S Q
 | .ite b x y,S,Q=>Br b (en E x S Q) (en E y S Q)
 | .alt x y,S,Q=>en E x S Q∨en E y S Q
 | .all k,S,Q=> ∀n,en E (k n) S Q
 | .Nk a,S,Q=>NN E a S Q
theorem cC {E:Env}: ∀ {a2:bj} {a:Act} {S:SS} {Q:KK} {σ:St},Ref a2 a→en E a2 S Q→S.On σ→pg E a σ fun v σ' r w=> ∃S',S'.On σ'∧Q v S' r w
 | .done v,a,S,Q,σ,hr,h,ho=>by
   simp only[Ref] at hr;subst hr
   rw[lZ];exact⟨S,ho,h⟩
 | .fail,_,_,_,_,_,h,_=>by simp[en] at h
 | .lQ t k,a,S,Q,σ,hr,h,ho=>by
   obtain⟨k0,rfl,hk⟩:=hr
   rw[pt]
   simp only[en] at h
   split at h
   · rename_i v hv
     rw[ho.1 t v hv]
     exact cC (hk v) h ho
   · exact h.elim
 | .bG t k,a,S,Q,σ,hr,h,ho=>by
   obtain⟨k0,rfl,hk⟩:=hr
   rw[ma]
   simp only[en] at h
   split at h
   · rename_i v hv
     rw[ho.2 t v hv]
     exact cC (hk v) h ho
   · exact h.elim
 | .bo t o k,a,S,Q,σ,hr,h,ho=>by
   obtain⟨k0,rfl,hk⟩:=hr
   rw[pw]
   simp only[en] at h
   obtain⟨T,O⟩:=S
   exact cC hk h (ho.bo t o)
 | .jU t k,a,S,Q,σ,hr,h,ho=>by
   obtain⟨k0,rfl,hk⟩:=hr
   rw[ma]
   simp only[en] at h
   exact cC (hk (σ.O t)) (h _) ho
 | .call f as k,a,S,Q,σ,hr,h,ho=>by
   obtain⟨k0,rfl,hk⟩:=hr
   rw[E4]
   simp only[en] at h
   obtain⟨res,he,h⟩:=h
   exact⟨res,he,cC (hk res) h ho⟩
 | .bD p k,a,S,Q,σ,hr,h,ho=>cC (hr h.1) h.2 ho
 | .ex α p k,a,S,Q,σ,hr,h,ho=>by
   simp only[en] at h
   obtain⟨x,hx,h⟩:=h
   exact cC (hr x hx) h ho
 | .ite b x y,a,S,Q,σ,hr,h,ho=>by
   simp only[en] at h
   simp only[Ref] at hr
   cases b with
   | true=>exact cC (hr.1 rfl) (h.1 rfl) ho
   | false=>exact cC (hr.2 rfl) (h.2 rfl) ho
 | .alt x y,a,S,Q,σ,hr,h,ho=>by
   simp only[en] at h
   rcases h with h| h
   · exact cC hr.1 h ho
   · exact cC hr.2 h ho
 | .all k,a,S,Q,σ,hr,h,ho=>by
   obtain⟨n,hr⟩:=hr
   exact cC hr (h n) ho
 | .Nk b,a,S,Q,σ,hr,h,ho=>by
   simp only[Ref] at hr
   subst hr
   exact h.h σ ho
end Go.AM
namespace Go.AM
def nth {α:Type}:List α→Nat→Option α
 | [],_=>none
 | x::_,0=>some x
 | _::l,n+1=>nth l n
theorem A4 {α:Type}: ∀ (l:List α) (n:Nat),nth l n=l[n]?
 | [],_=>by simp[nth]
 | _::_,0=>by simp[nth]
 | _::l,n+1=>by simp[nth,A4 l n]
def force {α:Type} {β:Type 1}:List α→(List α→β)→β
 | [],k=>k []
 | x::l,k=>force l fun l'=>k (x::l')
theorem force_eq {α:Type} {β:Type 1}: ∀ (l:List α) (k:List α→β),force l k=k l
 | [],_=>rfl
 | _::l,k=>by simp only[force,force_eq l]
def xp {α:Type}:List α→Nat→α→List α
 | [],_,_=> []
 | _::l,0,y=>y::l
 | x::l,n+1,y=>x::xp l n y
theorem s9 {α:Type}: ∀ (l:List α) (n:Nat) (y:α),xp l n y=l.set n y
 | [],_,_=>by simp[xp]
 | _::_,0,_=>by simp[xp]
 | _::l,n+1,y=>by simp[xp,s9 l n y]
def eF {α:Type}:List α→Nat→Bool
 | [],0=>true
 | _::l,n+1=>eF l n
 | _,_=>false
theorem jb {α:Type}: ∀ {l:List α} {n:Nat},eF l n=true→l.length=n
 | [],0,_=>rfl
 | _::l,n+1,h=>by simp only[eF] at h;simp[jb h]
 | [],_+1,h=>by simp[eF] at h
 | _::_,0,h=>by simp[eF] at h
def fI {α:Type}:List α→Nat→Bool
 | _,0=>true
 | _::l,n+1=>fI l n
 | [],_+1=>false
theorem kf {α:Type}: ∀ {l:List α} {n:Nat},fI l n=true→n≤l.length
 | _,0,_=>Nat.zero_le _
 | _::l,n+1,h=>by simp only[fI] at h;simpa using kf h
 | [],_+1,h=>by simp[fI] at h
def takeN {α:Type}:List α→Nat→List α
 | _,0=> []
 | x::l,n+1=>x::takeN l n
 | [],_+1=> []
theorem pF {α:Type}: ∀ (l:List α) (n:Nat),takeN l n=l.take n
 | _,0=>by simp[takeN]
 | _::l,n+1=>by simp[takeN,pF l n]
 | [],_+1=>by simp[takeN]
def nV {α:Type}:List α→Nat→List α
 | l,0=>l
 | _::l,n+1=>nV l n
 | [],_+1=> []
theorem pG {α:Type}: ∀ (l:List α) (n:Nat),nV l n=l.drop n
 | _,0=>by simp[nV]
 | _::l,n+1=>by simp[nV,pG l n]
 | [],_+1=>by simp[nV]
def il (v:V) (sz:Nat):Bool:=match v with
 | .agg cs=>eF cs sz
 | v=>V.aK v &&Nat.beq sz 1
theorem gD {v:V} {sz:Nat} (h:il v sz=true):aO v sz=true:=by
 unfold il at h
 split at h
 · simp[aO,V.cells,V.cJ,V.isAgg,jb h]
 · rename_i hn
   simp only[Bool.and_eq_true] at h
   have h1:sz=1:=Nat.eq_of_beq_eq_true h.2
   have h2:v.cells=[v]:=by cases v<;>simp_all[V.cells]
   simp[aO,V.cJ,h2,h1,h.1]
def tN (agg:Bool) (off sz:Nat) (e:V):Option V:=
 match agg with
 | true=>match e with
   | .agg cs=>bif Nat.beq off 0 &&eF cs sz then some e else bif fI cs (off+sz) then some (.agg (takeN (nV cs off) sz)) else none
   | _=>none
 | false=>match e with
   | .agg cs=>nth cs off
   | v=>bif V.aK v &&Nat.beq off 0 then some v else none
theorem jc {agg:Bool} {off sz:Nat} {e v:V} (h:tN agg off sz e=some v):AM.part agg off sz e=some v:=by
 cases agg with
 | true=>
   simp only[tN] at h
   cases e with
   | agg cs=>
     simp only at h
     cases hb: (Nat.beq off 0 &&eF cs sz) with
     | true=>
       simp only[hb,cond_true,Option.some.injEq] at h
       subst h
       simp only[Bool.and_eq_true] at hb
       have h1:off=0:=Nat.eq_of_beq_eq_true hb.1
       have h2:=jb hb.2
       simp[AM.part,h1,←h2]
     | false=>
       simp only[hb,cond_false] at h
       cases hc:fI cs (off+sz) with
       | true=>
         simp only[hc,cond_true,Option.some.injEq] at h
         subst h
         simp[AM.part,pF,pG,kf hc]
       | false=>simp[hc] at h
   | _=>simp at h
 | false=>
   simp only[tN] at h
   cases e with
   | agg cs=>simp only[A4] at h;simpa [AM.part] using h
   | _=>
     simp only[V.aK,Bool.true_and,Bool.false_and,cond_false] at h
     first
     | (simp at h;done)
     | (cases hb:Nat.beq off 0 with
        | true=>simp only[hb,cond_true] at h;have h1:=Nat.eq_of_beq_eq_true hb;simp[AM.part,h1,V.aK];simpa using h
        | false=>simp[hb] at h)
def hG (agg:Bool) (off sz:Nat) (e v:V):Option V:=
 match agg with
 | true=>match e,v with
   | .agg cs,.agg vs=>bif eF vs sz then(bif Nat.beq off 0 &&eF cs sz then some v else bif fI cs (off+sz) then some (.agg (takeN cs off++(vs++nV cs (off+sz)))) else none) else none
   | _,_=>none
 | false=>bif V.aK v &&Nat.beq sz 1 then match e with
    | .agg cs=>bif fI cs (off+1) then some (.agg (xp cs off v)) else none
    | e=>bif V.aK e &&Nat.beq off 0 then some v else none
   else none
theorem rQ {agg:Bool} {off sz:Nat} {e v x:V} (h:hG agg off sz e v=some x):cP agg off sz e v=some x:=by
 cases agg with
 | true=>
   simp only[hG] at h
   split at h
   · rename_i cs vs
     cases h1:eF vs sz with
     | false=>simp[h1] at h
     | true=>
       have yR:=jb h1
       simp only[h1,cond_true] at h
       cases hb: (Nat.beq off 0 &&eF cs sz) with
       | true=>
         simp only[hb,cond_true,Option.some.injEq] at h
         subst h
         simp only[Bool.and_eq_true] at hb
         have h3:off=0:=Nat.eq_of_beq_eq_true hb.1
         have h2:=jb hb.2
         subst h3
         simp[cP,yR,h2]
       | false=>
         simp only[hb,cond_false] at h
         cases hc:fI cs (off+sz) with
         | true=>
           simp only[hc,cond_true,Option.some.injEq] at h
           subst h
           simp[cP,pF,pG,kf hc,yR]
         | false=>simp[hc] at h
   · simp at h
 | false=>
   simp only[hG] at h
   cases hb: (V.aK v &&Nat.beq sz 1) with
   | false=>simp[hb] at h
   | true=>
     simp only[hb,cond_true] at h
     simp only[Bool.and_eq_true] at hb
     have h1:sz=1:=Nat.eq_of_beq_eq_true hb.2
     split at h
     · rename_i cs
       cases hc:fI cs (off+1) with
       | false=>simp[hc] at h
       | true=>
         simp only[hc,cond_true,Option.some.injEq] at h
         subst h
         have:=kf hc
         simp[cP,hb.1,h1,s9];omega
     · rename_i hn
       cases hc: (V.aK e &&Nat.beq off 0) with
       | false=>simp[hc] at h
       | true=>
         simp only[hc,cond_true,Option.some.injEq] at h
         subst h
         simp only[Bool.and_eq_true] at hc
         have h3:off=0:=Nat.eq_of_beq_eq_true hc.2
         cases e<;>simp_all[cP,V.aK]
def iD:Option V→bj
 | some v=> .done v
 | none=> .fail
def nW (agg:Bool) (off sz:Nat) (e:V):bj:=
 match agg with
 | true=>match e with
   | .agg cs=>bif Nat.beq off 0 &&eF cs sz then .done e else bif fI cs (off+sz) then force (takeN (nV cs off) sz) fun l=> .done (.agg l) else .fail
   | _=> .fail
 | false=>match e with
   | .agg cs=>iD (nth cs off)
   | v=>bif V.aK v &&Nat.beq off 0 then .done v else .fail
theorem mb {agg:Bool} {off sz:Nat} {e:V}:nW agg off sz e=iD (tN agg off sz e):=by
 unfold nW tN
 cases agg with
 | true=>
   cases e with
   | agg cs=>
     simp only
     cases hb: (Nat.beq off 0 &&eF cs sz) with
     | true=>rfl
     | false=>
       simp only[cond_false]
       cases hc:fI cs (off+sz) with
       | true=>simp only[cond_true,force_eq];rfl
       | false=>rfl
   | _=>rfl
 | false=>
   cases e with
   | agg cs=>rfl
   | _=>simp only;cases hb:Nat.beq off 0 <;>simp[V.aK,iD]
def Fe (agg:Bool) (off sz:Nat) (e v:V) (k:V→bj):bj:=
 match agg with
 | true=>match e,v with
   | .agg cs,.agg vs=>bif eF vs sz then(bif Nat.beq off 0 &&eF cs sz then k v else bif fI cs (off+sz) then force (takeN cs off++(vs++nV cs (off+sz))) fun l=>k (.agg l) else .fail) else .fail
   | _,_=> .fail
 | false=>bif V.aK v &&Nat.beq sz 1 then match e with
    | .agg cs=>bif fI cs (off+1) then force (xp cs off v) fun l=>k (.agg l) else .fail
    | e=>bif V.aK e &&Nat.beq off 0 then k v else .fail
   else .fail
theorem Iq {agg:Bool} {off sz:Nat} {e v:V} {k:V→bj}:Fe agg off sz e v k=match hG agg off sz e v with
   | some x=>k x
   | none=> .fail:=by
 unfold Fe hG
 cases agg with
 | true=>
   simp only
   split
   · rename_i cs vs
     cases eF vs sz with
     | false=>rfl
     | true=>
       simp only[cond_true]
       cases (Nat.beq off 0 &&eF cs sz) with
       | true=>rfl
       | false=>
         simp only[cond_false]
         cases fI cs (off+sz) with
         | true=>simp only[cond_true,force_eq]
         | false=>rfl
   · rfl
 | false=>
   simp only
   cases (V.aK v &&Nat.beq sz 1) with
   | false=>rfl
   | true=>
     simp only[cond_true]
     split
     · rename_i cs
       cases fI cs (off+1) with
       | true=>simp only[cond_true,force_eq]
       | false=>rfl
     · cases (V.aK e &&Nat.beq off 0) <;>rfl
def dV (x:aQ) (k:V→bj):bj:=match x with
 | .tmp t=> .lQ t k
 | .const v=>k v
theorem Ref.ev {x:aQ} {k:V→bj} {k0:V→Act} (h: ∀v,Ref (k v) (k0 v)):Ref (dV x k) (AM.ev x k0):=by
 cases x with
 | tmp t=>exact⟨k0,rfl,h⟩
 | const v=>exact h v
def yS:List aQ→(List V→bj)→bj
 | [],k=>k []
 | x::xs,k=>dV x fun v=>yS xs fun vs=>k (v::vs)
theorem Ref.fg: ∀ {xs:List aQ} {k:List V→bj} {k0:List V→Act},(∀v,Ref (k v) (k0 v))→Ref (yS xs k) (AM.fg xs k0)
 | [],_,_,h=>h []
 | x::xs,_,_,h=>Ref.ev fun v=>Ref.fg fun vs=>h (v::vs)
def Dk:Option aQ→(Option V→bj)→bj
 | none,k=>k none
 | some x,k=>dV x fun v=>k (some v)
theorem Ref.vE {x:Option aQ} {k:Option V→bj} {k0:Option V→Act} (h: ∀v,Ref (k v) (k0 v)):Ref (Dk x k) (AM.vE x k0):=by
 cases x with
 | none=>exact h none
 | some x=>exact Ref.ev fun v=>h (some v)
theorem Ref.cz {o o0:Option V} (h: ∀v,o=some v→o0=some v):Ref (iD o) (AM.cz o0):=by
 cases o with
 | none=>trivial
 | some v=>rw[h v rfl];exact rfl
theorem Ref.ew {o:Option V}:Ref (iD o) (AM.cz o):=Ref.cz fun _ h=>h
theorem Ref.fail {a:Act}:Ref .fail a:=trivial
theorem Ref.done {v:V}:Ref (.done v) (.done v):=rfl
def tO (c:V) (k:V→bj):bj:=
 match c with
 | .sl r g off len=> .bG r fun ⟨bX,eX,cL,gk,fQ⟩=>match fQ with
   | some es=> .ex (List V) (fun ys=>aJ es off len=ys) fun ys=> .bD (bX=g∧cL=true∧off+len≤es.length∧V.aq ys=true) (.bo r ⟨bX,eX,cL,true,fQ⟩ (k (.lit eX ys)))
   | none=> .fail
 | .mp r g=> .bG r fun ⟨bX,eX,cL,gk,fQ⟩=>match fQ with
   | some es=> .ex (List V) (fun ys=>es=ys) fun ys=> .bD (bX=g∧eX=0∧V.aq ys=true∧ys.all V.isTuple=true) (.bo r ⟨bX,eX,cL,true,fQ⟩ (k (.mlit ys)))
   | none=> .fail
 | .own .. | .msl .. | .mptr .. | .any| .it .. => .fail
 | c=>k c
theorem Ref.b8 {c:V} {k:V→bj} {k0:V→Act} (h: ∀v,Ref (k v) (k0 v)):Ref (tO c k) (AM.b8 c k0):=by
 cases c
 case sl r g off len=>
  refine⟨_,rfl,fun ⟨gen,sz,arr,fz,es⟩=> ?_⟩
  cases es with
  | none=>trivial
  | some es=>
    rintro ys rfl hc
    simp only[hc,and_self,if_true]
    refine⟨_,by simp[hc],h _⟩
 case mp r g=>
  refine⟨_,rfl,fun ⟨gen,sz,arr,fz,es⟩=> ?_⟩
  cases es with
  | none=>trivial
  | some es=>
    rintro ys rfl hc
    simp only[hc,and_self,if_true]
    refine⟨_,by simp[hc],h _⟩
 all_goals first| exact h _| trivial
def xq (b:Bool) (c:V) (k:V→bj):bj:=
 match b,c with
 | true,.ptr r g 0 off=> .bG r fun ⟨bX,eX,cL,gk,fQ⟩=>match fQ with
   | some [e]=> .bD (bX=g∧0 <eX∧V.aB e=true) (.bo r ⟨bX,eX,cL,true,fQ⟩ (k (.eptr e off)))
   | _=> .fail
 | _,c=>k c
theorem Ref.oF {b:Bool} {c:V} {k:V→bj} {k0:V→Act} (h: ∀v,Ref (k v) (k0 v)):Ref (xq b c k) (AM.oF b c k0):=by
 unfold xq AM.oF
 split
 · refine⟨_,rfl,fun ⟨gen,sz,arr,fz,es⟩=> ?_⟩
   dsimp only
   split
   · intro hc
     simp only[hc,and_self,if_true]
     refine⟨_,by simp[hc],h _⟩
   · trivial
 · split
   · rename_i hx
     exact absurd rfl (hx _ _ _ rfl)
   · exact h _
def tP:List (Bool×aQ)→(List V→bj)→bj
 | [],k=>k []
 | (b,x)::xs,k=>dV x fun c=>xq b c fun c'=>tP xs fun cs=>k (c'::cs)
theorem Ref.iI: ∀ {xs:List (Bool×aQ)} {k:List V→bj} {k0:List V→Act},(∀v,Ref (k v) (k0 v))→Ref (tP xs k) (AM.iI xs k0)
 | [],_,_,h=>h []
 | (_,_)::_,_,_,h=>Ref.ev fun _=>Ref.oF fun v=>Ref.iI fun vs=>h (v::vs)
def qR:List V→(List V→bj)→bj
 | [],k=>k []
 | c::cs,k=>tO c fun c'=>qR cs fun ct=>k (c'::ct)
theorem Ref.dN: ∀ {cs:List V} {k:List V→bj} {k0:List V→Act},(∀v,Ref (k v) (k0 v))→Ref (qR cs k) (AM.dN cs k0)
 | [],_,_,h=>h []
 | _::_,_,_,h=>Ref.b8 fun v=>Ref.dN fun vs=>h (v::vs)
def xr (v:V) (k:V→bj):bj:=
 bif V.aB v then k v else
 match v with
 | .agg cs=>qR cs fun ct=>k (.agg ct)
 | v=>tO v k
theorem Ref.sM {v:V} {k:V→bj} {k0:V→Act} (h: ∀v,Ref (k v) (k0 v)):Ref (xr v k) (AM.sM v k0):=by
 unfold xr AM.sM
 cases hp:V.aB v with
 | true=>simpa using h v
 | false=>
   simp only[cond_false,Bool.false_eq_true,if_false]
   cases v
   case agg cs=>exact Ref.dN fun ct=>h _
   all_goals exact Ref.b8 h
def Ff (vs:List V) (k:List V→bj):bj:=
 .alt (.bD (V.aq vs=true) (k vs)) (match vs with
  | [v]=>xr v fun v'=>k [v']
  | _=> .fail)
theorem Ref.iH {vs:List V} {k:List V→bj} {k0:List V→Act} (h: ∀v,Ref (k v) (k0 v)):Ref (Ff vs k) (AM.iH vs k0):=by
 unfold Ff
 refine⟨?_,?_⟩
 · intro hp
   simp only[AM.iH,hp,if_true]
   exact h _
 · split
   · rename_i v
     unfold AM.iH
     by_cases hp:V.aq [v]=true
     · rw[if_pos hp]
       have h1:V.aB v=true:=by simpa [V.aq] using hp
       unfold xr
       simp only[h1,cond_true];exact h _
     · rw[if_neg hp]
       simp only[AM.iH.go]
       exact Ref.sM fun v'=>h _
   · trivial
end Go.AM
namespace Go.AM
def xt (f:V→(V→List Nat→bj)→bj):List V→(List V→List Nat→bj)→bj
 | [],k=>k [] []
 | c::cs,k=>f c fun c' r=>xt f cs fun ct rs=>k (c'::ct) (r++rs)
theorem Ref.iE {f:V→(V→List Nat→bj)→bj} {f0:V→(V→List Nat→Act)→Act} (hf: ∀c k k0,(∀v rs,Ref (k v rs) (k0 v rs))→Ref (f c k) (f0 c k0)):
  ∀ {cs:List V} {k:List V→List Nat→bj} {k0:List V→List Nat→Act},(∀v rs,Ref (k v rs) (k0 v rs))→Ref (xt f cs k) (AM.iE f0 cs k0)
 | [],_,_,h=>h _ _
 | _::_,_,_,h=>hf _ _ _ fun v rs=>Ref.iE hf fun vs rs'=>h _ _
def fU:Nat→V→(V→List Nat→bj)→bj
 | 0,v,k=> .bD (V.aB v=true) (k v [])
 | d+1,v,k=>bif V.aB v then k v [] else
   match v with
   | .agg cs=>xt (fU d) cs fun ct rs=>k (.agg ct) rs
   | .fn f cs=>xt (fU d) cs fun ct rs=>k (.fn f ct) rs
   | .iface t x=>fU d x fun x' rs=>k (.iface t x') rs
   | .sl r g off len=> .bG r fun ⟨bX,eX,cL,gk,fQ⟩=>match fQ with
     | some es=> .ex (List V) (fun ys=>aJ es off len=ys) fun ys=> .bD (bX=g∧cL=true∧off+len≤es.length∧V.aq ys=true) (k (.lit eX ys) [r])
     | none=> .fail
   | .ptr r g idx off=> .bG r fun ⟨bX,eX,cL,gk,fQ⟩=>match fQ with
     | some es=> .bD (bX=g) (match es with
       | [e]=> (match idx with| 0=>fU d e fun e' rs=>k (.eptr e' off) (r::rs) | _+1=> .fail)
       | es=> .ex V (fun e=>es[idx]? =some e) fun e=>fU d e fun e' rs=>k (.eptr e' off) (r::rs))
     | none=> .fail
   | _=> .fail
theorem Ref.dh: ∀ {d:Nat} {v:V} {k:V→List Nat→bj} {k0:V→List Nat→Act},(∀v rs,Ref (k v rs) (k0 v rs))→Ref (fU d v k) (AM.dh d v k0)
 | 0,v,k,k0,h=>by
   intro hp
   simp only[AM.dh,hp,if_true]
   exact h _ _
 | d+1,v,k,k0,h=>by
   unfold fU AM.dh
   cases hp:V.aB v with
   | true=>simpa using h v []
   | false=>
     simp only[cond_false,Bool.false_eq_true,if_false]
     cases v
     case agg cs=>exact Ref.iE (f:=fU d) (f0:=AM.dh d) (fun c k k0 h=>Ref.dh h) fun ct rs=>h _ _
     case fn f cs=>exact Ref.iE (f:=fU d) (f0:=AM.dh d) (fun c k k0 h=>Ref.dh h) fun ct rs=>h _ _
     case iface t x=>exact Ref.dh fun x' rs=>h _ _
     case sl r g off len=>
      refine⟨_,rfl,fun ⟨gen,sz,arr,fz,es⟩=> ?_⟩
      cases es with
      | none=>trivial
      | some es=>
        rintro ys rfl hc
        try simp only at hc
        simp only[hc,and_self,if_true,nj]
        exact h _ _
     case ptr r g idx off=>
      refine⟨_,rfl,fun ⟨gen,sz,arr,fz,es⟩=> ?_⟩
      cases es with
      | none=>trivial
      | some es=>
        intro hc
        try simp only at hc
        simp only[hc,if_true]
        split
        ·  rename_i e
           cases idx with
           | zero=>exact Ref.dh fun e' rs=>h _ _
           | succ n=>trivial
        ·  intro e he
           simp only[he]
           exact Ref.dh fun e' rs=>h _ _
     all_goals trivial
def eo (   r0:Nat):List V→List (Option Nat)→Nat→(List V→List Nat→List df→bj)→bj
 | [],_,_,k=>k [] [] []
 | v::vs,m::ms,i,k=>
   match m with
   | some sz=>match v with
     | .nils=> .bD (0 <sz) (eo r0 vs ms (i+1) fun as rs ws=>k (.msl sz [] 0 0::as) rs (⟨i,r0+i,some sz⟩::ws))
     | .sl r g off len=> .bG r fun ⟨bX,eX,cL,gk,fQ⟩=>match fQ with
       | some es=> .bD (bX=g∧gk=false∧eX=sz∧off+len≤es.length∧V.aq es=true)
          (eo r0 vs ms (i+1) fun as rs ws=>k (.msl sz es off len::as) rs (⟨i,r,none⟩::ws))
       | none=> .fail
     | .ptr r g idx off=> .bG r fun ⟨bX,eX,cL,gk,fQ⟩=>match fQ with
       | some es=> .bD (bX=g∧gk=false∧eX=sz∧V.aq es=true)
          (eo r0 vs ms (i+1) fun as rs ws=>k (.mptr sz es idx off::as) rs (⟨i,r,none⟩::ws))
       | none=> .fail
     | _=> .fail
   | none=>fU 5 v fun v' rs=>eo r0 vs ms (i+1) fun as rs' ws=>k (v'::as) (rs++rs') ws
 | v::vs,[],i,k=>fU 5 v fun v' rs=>eo r0 vs [] (i+1) fun as rs' ws=>k (v'::as) (rs++rs') ws
theorem Ref.cS {r0:Nat}: ∀ {vs:List V} {ms:List (Option Nat)} {i:Nat} {k:List V→List Nat→List df→bj} {k0:List V→List Nat→List df→Act},
   (∀a b c,Ref (k a b c) (k0 a b c))→Ref (eo r0 vs ms i k) (AM.cS r0 vs ms i k0)
 | [],_,_,_,_,h=>h _ _ _
 | v::vs,[],i,k,k0,h=>Ref.dh fun v' rs=>Ref.cS fun a b c=>h _ _ _
 | v::vs,none::ms,i,k,k0,h=>Ref.dh fun v' rs=>Ref.cS fun a b c=>h _ _ _
 | v::vs,some sz::ms,i,k,k0,h=>by
   unfold eo AM.cS
   cases v
   case nils=>
    intro hc
    simp only[hc,if_true]
    exact Ref.cS fun a b c=>h _ _ _
   case sl r g off len=>
    refine⟨_,rfl,fun ⟨gen,sz,arr,fz,es⟩=> ?_⟩
    cases es with
    | none=>trivial
    | some es=>
      intro hc
      try simp only at hc
      simp only[hc,and_self,if_true]
      exact Ref.cS fun a b c=>h _ _ _
   case ptr r g idx off=>
    refine⟨_,rfl,fun ⟨gen,sz,arr,fz,es⟩=> ?_⟩
    cases es with
    | none=>trivial
    | some es=>
      intro hc
      try simp only at hc
      simp only[hc,and_self,if_true]
      exact Ref.cS fun a b c=>h _ _ _
   all_goals trivial
def kV:List Nat→bj→bj
 | [],k=>k
 | r::rs,k=> .bG r fun ⟨bX,eX,cL,gk,fQ⟩=> .bo r ⟨bX,eX,cL,true,fQ⟩ (kV rs k)
theorem Ref.b7: ∀ {rs:List Nat} {k:bj} {k0:Act},Ref k k0→Ref (kV rs k) (AM.b7 rs k0)
 | [],_,_,h=>h
 | _::_,_,_,h=> ⟨_,rfl,fun ⟨_,_,_,_,_⟩=> ⟨_,rfl,Ref.b7 h⟩⟩
def fV:List df→List (Nat×List V)→(List (Nat×Nat×Nat)→bj)→bj
 | [],[],k=>k []
 | ⟨i,r,fresh⟩::ws,(Dl,es)::outs,k=> .bG r fun ⟨bX,eX,cL,gk,fQ⟩=>match fresh with
   | none=> .bo r ⟨bX+Dl,eX,cL,gk,some es⟩ (fV ws outs fun gs=>k ((i,r,bX+Dl)::gs))
   | some sz=> .bo r {gen:=bX+1,sz,arr:=true,fz:=false,es:=some es} (fV ws outs fun gs=>k ((i,r,bX+1)::gs))
 | _,_,_=> .fail
theorem Ref.cn: ∀ {ws:List df} {outs:List (Nat×List V)} {k:List (Nat×Nat×Nat)→bj} {k0:List (Nat×Nat×Nat)→Act},(∀g,Ref (k g) (k0 g))→Ref (fV ws outs k) (AM.cn ws outs k0)
 | [],[],_,_,h=>h _
 | [],_::_,_,_,_=>trivial
 | _::_,[],_,_,_=>trivial
 | ⟨i,r,fresh⟩::ws,(Dl,es)::outs,k,k0,h=>by
   refine⟨_,rfl,fun ⟨gen,sz,arr,fz,es'⟩=> ?_⟩
   cases fresh with
   | none=>exact⟨_,rfl,Ref.cn fun g=>h _⟩
   | some sz=>exact⟨_,rfl,Ref.cn fun g=>h _⟩
theorem Ref.bif {b:Bool} {x:bj} {a:Act} (h:Ref x a):Ref (bif b then x else .fail) (if b=true then a else .fail):=by
 cases b with
 | true=>simpa using h
 | false=>trivial
def jF (bg:Bool) (r:Nat) (gs:List (Nat×Nat×Nat)) (c:V) (k:V→bj):bj:=
 match c with
 | .own sz xs=> (match bg with
   | true=> .jU r fun g=> .bo r {gen:=g,sz,arr:=true,fz:=false,es:=some xs} (k (.sl r g 0 xs.length))
   | false=>k (.lit sz xs))
 | .sl i _ off len=>match eW i gs with
   | some (r',g')=>k (.sl r' g' off len)
   | none=> .fail
 | c=>bif V.aB c then k c else .fail
theorem Ref.bL {bg:Bool} {r:Nat} {gs:List (Nat×Nat×Nat)} {c:V} {k:V→bj} {k0:V→Act} (h: ∀v,Ref (k v) (k0 v)):Ref (jF bg r gs c k) (AM.bL bg r gs c k0):=by
 unfold jF AM.bL
 cases c
 case own sz xs=>
  cases bg with
  | true=>exact⟨_,rfl,fun o=> ⟨_,rfl,h _⟩⟩
  | false=>exact h _
 case sl i g off len=>
  simp only
  cases eW i gs with
  | none=>trivial
  | some p=>exact h _
 all_goals exact Ref.bif (h _)
def kW (bg:Bool):Nat→List (Nat×Nat×Nat)→List V→(List V→bj)→bj
 | _,_,[],k=>k []
 | r,gs,c::cs,k=>jF bg r gs c fun c'=>kW bg (r+1) gs cs fun ct=>k (c'::ct)
theorem Ref.cm {bg:Bool}: ∀ {cs:List V} {r:Nat} {gs:List (Nat×Nat×Nat)} {k:List V→bj} {k0:List V→Act},(∀v,Ref (k v) (k0 v))→Ref (kW bg r gs cs k) (AM.cm bg r gs cs k0)
 | [],_,_,_,_,h=>h _
 | _::_,_,_,_,_,h=>Ref.bL fun c'=>Ref.cm fun ct=>h _
def pH (bg:Bool) (r:Nat) (gs:List (Nat×Nat×Nat)) (v:V) (k:V→bj):bj:=
 bif V.aB v then k v else
 match v with
 | .agg cs=>kW bg r gs cs fun ct=>k (.agg ct)
 | v=>jF bg r gs v k
theorem Ref.dJ {bg:Bool} {r:Nat} {gs:List (Nat×Nat×Nat)} {v:V} {k:V→bj} {k0:V→Act} (h: ∀v,Ref (k v) (k0 v)):Ref (pH bg r gs v k) (AM.dJ bg r gs v k0):=by
 unfold pH AM.dJ
 cases hp:V.aB v with
 | true=>simpa using h v
 | false=>
   simp only[cond_false,Bool.false_eq_true,if_false]
   cases v
   case agg cs=>exact Ref.cm fun ct=>h _
   all_goals exact Ref.bL h
def qS (bg:Bool):Nat→List (Nat×Nat×Nat)→List V→(List V→bj)→bj
 | _,_,[],k=>k []
 | r,gs,v::vs,k=>pH bg r gs v fun v'=>qS bg (r+8) gs vs fun vs'=>k (v'::vs')
theorem Ref.dx {bg:Bool}: ∀ {vs:List V} {r:Nat} {gs:List (Nat×Nat×Nat)} {k:List V→bj} {k0:List V→Act},(∀v,Ref (k v) (k0 v))→Ref (qS bg r gs vs k) (AM.dx bg r gs vs k0)
 | [],_,_,_,_,h=>h _
 | _::_,_,_,_,_,h=>Ref.dJ fun c'=>Ref.dx fun ct=>h _
def dY (bg:Bool) (r:Nat) (gs:List (Nat×Nat×Nat)) (v:V) (k:V→bj):bj:=
 bif V.aB v then k v else
 match v with
 | .tuple vs=>qS bg r gs vs fun vs'=>k (.tuple vs')
 | v=>pH bg r gs v k
theorem Ref.bT {bg:Bool} {r:Nat} {gs:List (Nat×Nat×Nat)} {v:V} {k:V→bj} {k0:V→Act} (h: ∀v,Ref (k v) (k0 v)):Ref (dY bg r gs v k) (AM.bT bg r gs v k0):=by
 unfold dY AM.bT
 cases hp:V.aB v with
 | true=>simpa using h v
 | false=>
   simp only[cond_false,Bool.false_eq_true,if_false]
   cases v
   case tuple cs=>exact Ref.dx fun ct=>h _
   all_goals exact Ref.dJ h
def c6 (E:Env) (f:Nat):List (Option Nat):=match E.fn f with
 | some af=>af.fJ
 | none=> []
def jG (E:Env) (r:Nat) (bg:Bool) (f:Nat) (args:List V):bj:=
 eo ( r+8) args (c6 E f) 0 fun as rs ws=>
  .bD ((apart rs (ws.map (·.r)) &&distinct (ws.map (·.r)))=true) <| .call f as fun ⟨val,outs⟩=>
   match rs with
   | []=>fV ws outs fun gs=>dY bg r gs val .done
   | rs=>bif (V.isScalar val || oG r bg val) &&outs.all (fun o=>V.bb o.2) then fV ws outs fun gs=>dY bg r gs val .done
     else kV rs (fV ws outs fun gs=>dY bg r gs val .done)
theorem Ref.gE {E:Env} {r:Nat} {bg:Bool} {f:Nat} {args:List V}:Ref (jG E r bg f args) (AM.gE E r bg f args):=by
 unfold jG AM.gE
 refine Ref.cS fun as rs ws=> ?_
 intro hc
 simp only[hc,if_true]
 refine⟨_,rfl,fun ⟨val,outs⟩=> ?_⟩
 have J1:Ref (fV ws outs fun gs=>dY bg r gs val .done) (AM.cn ws outs fun gs=>AM.bT bg r gs val .done):=
   Ref.cn fun gs=>Ref.bT fun v=>rfl
 cases rs with
 | nil=>
   simp only[b7]
   split<;>exact J1
 | cons a rs=>
   simp only
   cases hb: ((V.isScalar val || oG r bg val) &&outs.all fun o=>V.bb o.2) with
   | true=>simp only[cond_true,if_true];exact J1
   | false=>simp only[cond_false,Bool.false_eq_true,if_false];exact Ref.b7 J1
end Go.AM
namespace Go.AM
def qT (d:Nat) (o:Option V) (k:Nat→bj):bj:=match o with
 | none=>k d
 | some (.int _ n)=> .bD (0≤n) (k n.toNat)
 | some _=> .fail
theorem Ref.Fg {d:Nat} {o:Option V} {k:Nat→bj} {a:Act} (h: ∀n,bC d o=some n→Ref (k n) a):Ref (qT d o k) a:=by
 unfold qT
 split
 · exact h _ rfl
 · rename_i K n
   intro h0
   exact h _ (by simp[bC,h0])
 · trivial
def tQ:List (Nat×Nat×aQ)→(List (Nat×Nat×V)→bj)→bj
 | [],k=>k []
 | (off,sz,x)::ps,k=>dV x fun v=>tQ ps fun vs=>k ((off,sz,v)::vs)
theorem Ref.eE: ∀ {ps:List (Nat×Nat×aQ)} {k:List (Nat×Nat×V)→bj} {k0:List (Nat×Nat×V)→Act},(∀v,Ref (k v) (k0 v))→Ref (tQ ps k) (AM.eE ps k0)
 | [],_,_,h=>h _
 | (_,_,_)::_,_,_,h=>Ref.ev fun v=>Ref.eE fun vs=>h _
def jd:List V→List (Nat×Nat×V)→Option (List V)
 | cs,[]=>some cs
 | cs,(off,sz,v)::rest=>bif il v sz &&fI cs (off+sz) then jd (match v with
    | .agg vs=>takeN cs off++(vs++nV cs (off+sz))
    | v=>xp cs off v) rest else none
theorem nX: ∀ {ps:List (Nat×Nat×V)} {cs out:List V},jd cs ps=some out→de cs ps=some out
 | [],cs,out,h=>h
 | (off,sz,v)::rest,cs,out,h=>by
   simp only[jd] at h
   cases hb: (il v sz &&fI cs (off+sz)) with
   | false=>simp[hb] at h
   | true=>
     simp only[hb,cond_true] at h
     simp only[Bool.and_eq_true] at hb
     have h1:=gD hb.1
     have h2:=kf hb.2
     simp only[aO,Bool.and_eq_true,beq_iff_eq] at h1
     simp only[de]
     rw[if_pos ⟨h1.1,h2,h1.2⟩]
     have ih:=nX h
     rw[←ih]
     congr 1
     split
     · rename_i vs
       simp[V.cells,pF,pG]
     · rename_i hn
       have h3:v.cells=[v]:=by cases v<;>simp_all[V.cells]
       have h4:sz=1:=by rw[h3] at h1;simpa using h1.1.symm
       subst h4
       rw[s9,h3]
       simp[List.set_eq_take_append_cons_drop,show off<cs.length by omega]
def pI:List (Nat×aQ)→(List (Nat×V)→bj)→bj
 | [],k=>k []
 | (i,x)::ps,k=>dV x fun v=>xr v fun v=>pI ps fun vs=>k ((i,v)::vs)
theorem Ref.dK: ∀ {ps:List (Nat×aQ)} {k:List (Nat×V)→bj} {k0:List (Nat×V)→Act},(∀v,Ref (k v) (k0 v))→Ref (pI ps k) (AM.dK ps k0)
 | [],_,_,h=>h _
 | (_,_)::_,_,_,h=>Ref.ev fun v=>Ref.sM fun v'=>Ref.dK fun vs=>h _
def nk (sz:Nat):Nat→List (Nat×V)→Option (List V)
 | _,[]=>some []
 | i,(j,v)::rest=>bif Nat.beq i j &&il v sz then(match nk sz (i+1) rest with| some vs=>some (v::vs) | none=>none) else none
def fE (sz:Nat):List V→List (Nat×V)→Option (List V)
 | es,[]=>some es
 | es,(i,v)::rest=>bif fI es (i+1) &&il v sz then fE sz (xp es i v) rest else none
theorem jV {sz:Nat}: ∀ {ps:List (Nat×V)} {es out:List V},fE sz es ps=some out→b6 sz es ps=some out
 | [],cs,out,h=>h
 | (i,v)::rest,es,out,h=>by
   simp only[fE] at h
   cases hb: (fI es (i+1) &&il v sz) with
   | false=>simp[hb] at h
   | true=>
     simp only[hb,cond_true] at h
     simp only[Bool.and_eq_true] at hb
     have h1:=gD hb.2
     have h2:=kf hb.1
     simp only[b6]
     rw[if_pos ⟨by omega,h1⟩,←s9]
     exact jV h
theorem oH {sz:Nat}: ∀ {ps:List (Nat×V)} {i:Nat} {vs pre es:List V},nk sz i ps=some vs→pre.length=i→es.length=ps.length→b6 sz (pre++es) ps=some (pre++vs)
 | [],i,vs,pre,es,h,hp,he=>by
   simp only[nk,Option.some.injEq] at h
   subst h
   have:es=[]:=by simpa using he
   simp[b6,this]
 | (j,v)::rest,i,vs,pre,es,h,hp,he=>by
   simp only[nk] at h
   cases hb: (Nat.beq i j &&il v sz) with
   | false=>simp[hb] at h
   | true=>
     simp only[hb,cond_true] at h
     simp only[Bool.and_eq_true] at hb
     have h1:=gD hb.2
     have h2:i=j:=Nat.eq_of_beq_eq_true hb.1
     subst h2
     split at h
     · rename_i vs' hv
       simp only[Option.some.injEq] at h
       subst h
       cases es with
       | nil=>simp at he
       | cons e es=>
         simp only[b6]
         rw[if_pos ⟨by simp;omega,h1⟩]
         have: (pre++e::es).set i v=(pre++[v])++es:=by
          simp[List.set_append,hp]
         rw[this,oH hv (by simp[hp]) (by simpa using he)]
         simp
     · simp at h
def hJ (sz:Nat) (x:V) (k:List V→bj):bj:=
 match x with
 | .nils=>k []
 | .lit sz' xs=>bif Nat.beq sz' sz then k xs else .fail
 | .sl r g off len=> .bG r fun ⟨bX,eX,cL,gk,fQ⟩=>match fQ with
   | some es=> .ex (List V) (fun ys=>aJ es off len=ys) fun ys=> .bD (bX=g∧eX=sz∧off+len≤es.length) (k ys)
   | none=> .fail
 | .str s=>bif Nat.beq sz 1 then k (s.map fun b=> .int .u8 b.toNat) else .fail
 | _=> .fail
theorem Ref.content {sz:Nat} {x:V} {k:List V→bj} {k0:List V→Act} (h: ∀v,Ref (k v) (k0 v)):Ref (hJ sz x k) (AM.content sz x k0):=by
 unfold hJ AM.content
 cases x
 case nils=>exact h _
 case lit sz' xs=>
  cases hb:Nat.beq sz' sz with
  | true=>obtain rfl:=Nat.eq_of_beq_eq_true hb;simp only[if_true,hb,cond_true];exact h _
  | false=>simp only[hb,cond_false];trivial
 case str s=>
  cases hb:Nat.beq sz 1 with
  | true=>obtain rfl:=Nat.eq_of_beq_eq_true hb;simp only[if_true,hb,cond_true];exact h _
  | false=>simp only[hb,cond_false];trivial
 case sl r g off len=>
  refine⟨_,rfl,fun ⟨gen,sz,arr,fz,es⟩=> ?_⟩
  cases es with
  | none=>trivial
  | some es=>
    rintro ys rfl hc
    try simp only at hc
    simp only[hc,and_self,if_true]
    exact h _
 all_goals trivial
def kX ( r sz gr:Nat) (s:V) (ys:List V):bj:=
 .bD (ys.all (aO · sz)=true) <| bif Nat.ble 1 sz then
 match s with
 | .nils=>match ys with
   | [y]=> .bD (1≤gr) (.jU r fun g=> .bo r {gen:=g,sz,arr:=true,fz:=false,es:=some [y]} (.done (.sl r g 0 1)))
   | ys=> .ite ys.isEmpty (.done .nils) (.bD (ys.length≤gr) (.jU r fun g=> .bo r {gen:=g,sz,arr:=true,fz:=false,es:=some ys} (.done (.sl r g 0 ys.length))))
 | .lit sz' xs=> .bD (ys=[]) (.done (.lit sz' xs))
 | .sl r' g off len=> .bG r' fun ⟨bX,eX,cL,gk,fQ⟩=>match fQ with
   | some es=> .bD (bX=g∧cL=true∧gk=false∧eX=sz) <| .alt
      (.bD (off=0∧es.length=len∧len+ys.length≤gr) (.all fun g'=> .bo r' {gen:=g',sz,arr:=true,fz:=false,es:=some (es++ys)} (.done (.sl r' g' 0 (len+ys.length)))))
      (.bD (off+len≤es.length∧len+ys.length≤gr) (.ite (decide (off+len+ys.length≤es.length))
        (.bo r' ⟨bX,eX,cL,gk,some (overwrite es (off+len) ys)⟩ (.done (.sl r' g off (len+ys.length))))
        (.bo r' ⟨g+1,eX,cL,gk,some (aJ es off len++ys)⟩ (.done (.sl r' (g+1) 0 (len+ys.length))))))
   | none=> .fail
 | _=> .fail
 else .fail
theorem Ref.append {r sz gr:Nat} {s:V} {ys:List V}:Ref (kX r sz gr s ys) (tM r sz gr s ys):=by
 intro hy
 cases hb:Nat.ble 1 sz with
 | false=>simp only[cond_false];trivial
 | true=>
   have hs:0 <sz:=Nat.le_of_ble_eq_true hb
   have hg: (ys.all (aO · sz) &&decide (0 <sz))=true:=by simp only[Bool.and_eq_true,decide_eq_true_eq];exact⟨hy,hs⟩
   simp only[cond_true,tM,hg,if_true]
   cases s
   case nils=>
    simp only
    split
    · rename_i y
      intro hl
      simp only[List.isEmpty_cons,Bool.false_eq_true,if_false,List.length_cons,List.length_nil,Nat.zero_add,hl,if_true]
      exact⟨_,rfl,fun o=> ⟨_,rfl,rfl⟩⟩
    · refine⟨fun he=> ?_,fun he=> ?_⟩
      · simp only[he,if_true];exact rfl
      ·  intro hl
         simp only[he,Bool.false_eq_true,if_false,hl,if_true]
         exact⟨_,rfl,fun o=> ⟨_,rfl,rfl⟩⟩
   case lit sz' xs=>
    intro he
    simp only[he,List.isEmpty_nil,if_true];exact rfl
   case sl r' g off len=>
    refine⟨_,rfl,fun ⟨gen,sz',arr,fz,es⟩=> ?_⟩
    cases es with
    | none=>trivial
    | some es=>
      intro hc
      obtain⟨rfl,rfl,rfl,rfl⟩:=hc
      refine⟨?_,?_⟩
      ·  rintro⟨rfl,rfl,hl⟩
         simp only[Nat.zero_add,Nat.le_refl,hl,and_self,if_true]
         by_cases hn:ys=[]
         · subst hn
           refine⟨gen,?_⟩
           simp only[List.append_nil,List.length_nil,Nat.add_zero,Nat.le_refl,if_true,overwrite,List.take_length,List.drop_length]
           exact⟨_,rfl,rfl⟩
         · have hp:0 <ys.length:=List.length_pos_iff.2 hn
           refine⟨gen+1,?_⟩
           rw[if_neg (by omega)]
           simp only[aJ,List.drop_zero,List.take_length]
           exact⟨_,rfl,rfl⟩
      ·  rintro⟨h1,h2⟩
         simp only[h1,h2,and_self,if_true]
         refine⟨fun hd=> ?_,fun hd=> ?_⟩
         · simp only[decide_eq_true_eq] at hd
           rw[if_pos hd]
           exact⟨_,rfl,rfl⟩
         · simp only[decide_eq_false_iff_not] at hd
           rw[if_neg hd]
           exact⟨_,rfl,rfl⟩
   all_goals trivial
def Lk (op:BinOp) (x y:V):bj:=
 match x,y with
 | .int k a,.int k' b=>
   match op with
   | .shl=> .bD (0≤b) (.done (.int k (k.wrap (a*2 ^ (min b.toNat k.bits)))))
   | .shr=> .bD (0≤b) (.done (.int k (a.fdiv (2 ^ (min b.toNat k.bits)))))
   | .quo=> .bD (k=k'∧b≠0) (.done (.int k (k.wrap (a.tdiv b))))
   | .rem=> .bD (k=k'∧b≠0) (.done (.int k (a.tmod b)))
   | .and=> .bD (k=k') (iD (jH .and k a b))
   | .or=> .bD (k=k') (iD (jH .or k a b))
   | .xor=> .bD (k=k') (iD (jH .xor k a b))
   | .andNot=> .bD (k=k') (iD (jH .andNot k a b))
   | .add=>bif decide (k=k') then .done (.int k (k.wrap (a+b))) else .fail
   | .sub=>bif decide (k=k') then .done (.int k (k.wrap (a - b))) else .fail
   | .mul=>bif decide (k=k') then .done (.int k (k.wrap (a*b))) else .fail
   | .eql=>bif decide (k=k') then .done (.bool (decide (a=b))) else .fail
   | .neq=>bif decide (k=k') then .done (.bool (!decide (a=b))) else .fail
   | .lss=>bif decide (k=k') then .done (.bool (decide (a<b))) else .fail
   | .leq=>bif decide (k=k') then .done (.bool (decide (a≤b))) else .fail
   | .gtr=>bif decide (k=k') then .done (.bool (decide (b<a))) else .fail
   | .geq=>bif decide (k=k') then .done (.bool (decide (b≤a))) else .fail
 | .str a,.str b=>
   match op with
   | .add=> .bD (a.length+b.length≤9223372036854775807) (.done (.str (a++b)))
   | .eql=> .done (.bool (decide (a=b)))
   | .neq=> .done (.bool (!decide (a=b)))
   | .lss=> .done (.bool (Op.bytesLess a b))
   | .leq=> .done (.bool (Op.bytesLess a b || decide (a=b)))
   | .gtr=> .done (.bool (!(Op.bytesLess a b || decide (a=b))))
   | .geq=> .done (.bool (!Op.bytesLess a b))
   | _=> .fail
 | _,_=> .fail
theorem Ref.yT {b:Bool} {x:bj} {a:Act} (h:b=true→Ref x a):Ref (bif b then x else .fail) a:=by
 cases b with
 | true=>simpa using h rfl
 | false=>trivial
theorem Ref.bin {op:BinOp} {x y:V}:Ref (Lk op x y) (AM.cz (bU op x y)):=by
 unfold Lk
 split
 · rename_i k a k' b
   split
   case h_1=>intro h;simp[bU,show ¬b< 0 by omega,AM.cz,Ref]
   case h_2=>intro h;simp[bU,show ¬b< 0 by omega,AM.cz,Ref]
   case h_3=>intro h;simp[bU,h.1,h.2,AM.cz,Ref]
   case h_4=>intro h;simp[bU,h.1,h.2,AM.cz,Ref]
   case h_5=>intro h;simp only[bU,h,if_true];exact Ref.ew
   case h_6=>intro h;simp only[bU,h,if_true];exact Ref.ew
   case h_7=>intro h;simp only[bU,h,if_true];exact Ref.ew
   case h_8=>intro h;simp only[bU,h,if_true];exact Ref.ew
   all_goals exact Ref.yT fun h=>by simp only[decide_eq_true_eq] at h;simp[bU,h,AM.cz,Ref,cZ,pE,bne]
 · rename_i a b
   split
   case h_1=>intro h;simp[bU,h,AM.cz,Ref]
   case h_8=>trivial
   all_goals simp[bU,AM.cz,Ref]
 · trivial
def Ll (neg:Bool) (a b:V):bj:=
 match a,b with
 | .nilp,.nilp=> .done (.bool (true !=neg))
 | .nilp,.eptr .. | .nilp,.epk .. | .eptr ..,.nilp| .epk ..,.nilp=> .done (.bool (false !=neg))
 | .epk i z _ 0,.epk i' z' _ 0=> .bD (z=z'∧0 <z) (.done (.bool ((i==i') !=neg)))
 | _,_=> .fail
theorem Ref.Lm {neg:Bool} {a b:V}:Ref (Ll neg a b) (AM.cz ((Co a b).map fun c=> .bool (c !=neg))):=by
 unfold Ll
 split
 all_goals first| exact rfl| trivial| skip
 intro h
 obtain⟨rfl,hz⟩:=h
 simp only[Co,hz,and_self,if_true,Option.map_some]
 exact rfl
def Ln (sz:Nat) (v i:V):bj:=
 match v,i with
 | .sl r g off len,.int _ n=> .bG r fun ⟨bX,eX,cL,gk,fQ⟩=> .bD (0≤n∧n<len∧eX=sz∧bX=g) (match off with
   | 0=> .done (.ptr r g n.toNat 0)
   | off=> .done (.ptr r g (off+n.toNat) 0))
 | .lit sz' xs,.int _ n=> .bD (0≤n∧sz'=sz) (.ex V (fun e=>xs[n.toNat]? =some e) fun e=> .done (.eptr e 0))
 | .litk sz' xs,.int _ n=> .bD (0≤n∧sz'=sz∧0 <sz) (.ex V (fun e=>xs[n.toNat]? =some e) fun e=> .done (.epk n.toNat sz e 0))
 | _,_=> .fail
theorem Ref.idx {sz:Nat} {v i:V}:Ref (Ln sz v i) (gB sz v i):=by
 unfold Ln
 split
 · refine⟨_,rfl,fun ⟨gen,sz',arr,fz,es⟩=> ?_⟩
   intro h
   try simp only at h
   simp only[h,and_self,if_true]
   split
   · simp[Ref]
   · exact rfl
 · intro h e he
   simp only[gB,h,and_self,if_true,he]
   exact rfl
 · intro h e he
   obtain⟨h1,rfl,h3⟩:=h
   simp only[gB,h1,h3,and_self,if_true,he]
   exact rfl
 · trivial
def Lo (sz:Nat) (v:V) (l h m:Option V):bj:=
 match m with
 | some mx=> (match v,h with
   | .sl r g off len,some hv=> .bG r fun ⟨bX,eX,cL,gk,fQ⟩=>match fQ with
     | some es=> .bD (bX=g∧eX=sz) <| qT 0 l fun l=>qT len (some hv) fun h=>qT 0 (some mx) fun m=> .bD (l≤h∧h≤m∧off+m≤es.length∧m≠l) (.done .any)
     | none=> .fail
   | _,_=> .fail)
 | none=>match v with
   | .sl r g off len=> .bG r fun ⟨bX,eX,cL,gk,fQ⟩=>match fQ with
     | some es=> .bD (bX=g∧eX=sz) <| qT 0 l fun l=>qT len h fun h=> .bD (l≤h∧off+h≤es.length) (.done (.sl r g (off+l) (h - l)))
     | none=> .fail
   | .lit sz' xs=> .bD (sz'=sz) <| qT 0 l fun l=>qT xs.length h fun h=> .bD (l≤h∧h≤xs.length) (.ex (List V) (fun ys=>aJ xs l (h - l)=ys) fun ys=> .done (.lit sz ys))
   | .nils=>qT 0 l fun l=>qT 0 h fun h=> .bD (l≤h∧h≤0) (.done .nils)
   | _=> .fail
theorem Ref.slc {sz:Nat} {v:V} {l h m:Option V}:Ref (Lo sz v l h m) (oE sz v l h m):=by
 unfold Lo
 split
 · split
   · rename_i mx _ _ r g off len hv
     refine⟨_,rfl,fun ⟨gen,sz',arr,fz,es⟩=> ?_⟩
     cases es with
     | none=>trivial
     | some es=>
       intro hc
       try simp only at hc
       simp only[hc,and_self,if_true]
       refine Ref.Fg fun l' hl=>Ref.Fg fun h' hh=>Ref.Fg fun m' hm=> ?_
       intro hk
       simp only[hl,hh,hm,hk,and_self,if_true,if_false]
       exact rfl
   · trivial
 · split
   · rename_i r g off len
     refine⟨_,rfl,fun ⟨gen,sz',arr,fz,es⟩=> ?_⟩
     cases es with
     | none=>trivial
     | some es=>
       intro hc
       try simp only at hc
       simp only[hc,and_self,if_true]
       refine Ref.Fg fun l' hl=>Ref.Fg fun h' hh=> ?_
       intro hk
       simp only[hl,hh,hk,and_self,if_true]
       exact rfl
   · rename_i sz' xs
     intro hc
     refine Ref.Fg fun l' hl=>Ref.Fg fun h' hh=> ?_
     rintro hk ys rfl
     simp only[oE,ja,hc,if_true,hl,hh,hk,and_self,AM.cz]
     exact rfl
   · refine Ref.Fg fun l' hl=>Ref.Fg fun h' hh=> ?_
     intro hk
     have h1:bC 0 none=some 0:=rfl
     simp only[oE,ja,hl,hh,h1,hk.1,hk.2,Option.isNone_none,AM.cz,Nat.le_refl,and_self,or_true,if_true]
     exact rfl
   · trivial
def qU (x:V) (lo hi:Option V):bj:=
 match x with
 | .str s=>qT 0 lo fun l=>qT s.length hi fun h=> .bD (l≤h∧h≤s.length) (.done (.str ((s.drop l).take (h - l))))
 | _=> .fail
theorem Ref.je {x:V} {l h:Option V}:Ref (qU x l h) (AM.cz (eu x l h)):=by
 unfold qU
 split
 · refine Ref.Fg fun l' hl=>Ref.Fg fun h' hh=> ?_
   intro hk
   simp only[eu,hl,hh,hk,and_self,if_true,AM.cz]
   exact rfl
 · trivial
def xu (agg:Bool) (sz r g idx off:Nat) (v:V):bj:=
 .bG r fun ⟨bX,eX,cL,gk,fQ⟩=>match fQ with
  | some es=> .bD (bX=g∧gk=false) <| (match cL with
    | true=> .ex V (fun e=>es[idx]? =some e) fun e=>Fe agg off sz e v fun e'=> .bo r ⟨bX,eX,cL,gk,some (es.set idx e')⟩ (.done (.tuple []))
    | false=>match es,idx with
      | [e],0=>Fe agg off sz e v fun e'=> .bo r ⟨bX,eX,cL,gk,some [e']⟩ (.done (.tuple []))
      | es,idx=> .ex V (fun e=>es[idx]? =some e) fun e=>Fe agg off sz e v fun e'=> .bo r ⟨bX,eX,cL,gk,some (es.set idx e')⟩ (.done (.tuple [])))
  | none=> .fail
theorem Ref.jE {agg:Bool} {sz r g idx off:Nat} {v:V}:Ref (xu agg sz r g idx off v) (aw.jE agg sz r g idx off v):=by
 unfold xu aw.jE
 simp only[Iq]
 refine⟨_,rfl,fun ⟨gen,sz',arr,fz,es⟩=> ?_⟩
 cases es with
 | none=>trivial
 | some es=>
   intro hc
   try simp only at hc
   simp only[hc,and_self,if_true]
   have Dm:Ref (.ex V (fun e=>es[idx]? =some e) fun e=>match hG agg off sz e v with
       | some e'=> .bo r ⟨gen,sz',arr,fz,some (es.set idx e')⟩ (.done (.tuple []))
       | none=> .fail) (match es[idx]? with
         | some e=>match cP agg off sz e v with
           | some e'=> .bo r {gen:=gen,sz:=sz',arr:=arr,fz:=fz,es:=some (es.set idx e')} (.done (.tuple []))
           | none=> .fail
         | none=> .fail):=by
     intro e he
     simp only[he]
     cases hp:hG agg off sz e v with
     | none=>trivial
     | some e'=>simp only[rQ hp];exact⟨_,rfl,rfl⟩
   rw[hc.1,hc.2] at Dm
   cases arr with
   | true=>exact Dm
   | false=>
     simp only
     split
     · rename_i e
       simp only[List.getElem?_cons_zero]
       cases hp:hG agg off sz e v with
       | none=>trivial
       | some e'=>simp only[rQ hp];exact⟨_,rfl,rfl⟩
     · exact Dm
def qV:List (Nat×aQ)→(List (Nat×V)→bj)→bj
 | [],k=>k []
 | (i,x)::ps,k=>dV x fun v=>qV ps fun vs=>k ((i,v)::vs)
theorem Ref.hP: ∀ {ps:List (Nat×aQ)} {k:List (Nat×V)→bj} {k0:List (Nat×V)→Act},(∀v,Ref (k v) (k0 v))→Ref (qV ps k) (AM.hP ps k0)
 | [],_,_,h=>h _
 | (i,x)::ps,_,_,h=>Ref.ev fun v=>Ref.hP fun vs=>h _
def A5 (r sz:Nat) (zero:V) (n:Nat) (ps:List (Nat×V)):bj:=
 bif il zero sz &&Nat.ble 1 sz &&Nat.ble (n*sz) 16777216 then(match (bif eF ps n then nk sz 0 ps else none) with
  | some es=> .jU r fun g=> .bo r {gen:=g,sz,arr:=true,fz:=false,es:=some es} (.done (.sl r g 0 n))
  | none=>match fE sz (List.replicate n zero) ps with
    | some es=> .jU r fun g=> .bo r {gen:=g,sz,arr:=true,fz:=false,es:=some es} (.done (.sl r g 0 n))
    | none=> .fail) else .fail
def YH (E:Env):rP→bj
 | .move x=>dV x .done
 | .pick c a b=>dV c fun| .bool c=> .ite c (dV a .done) (dV b .done) | _=> .fail
 | .new r sz x=>dV x fun v=>bif il v sz &&Nat.ble 1 sz then .jU r fun g=> .bo r {gen:=g,sz,arr:=false,fz:=false,es:=some [v]} (.done (.ptr r g 0 0)) else .fail
 | .build cells parts=>tQ parts fun ps=>match jd cells ps with
   | some cs=>force cs fun cs=> .done (.agg cs)
   | none=> .fail
 | .buildSlice r sz zero n parts=>pI parts fun ps=>bif il zero sz &&Nat.ble 1 sz &&Nat.ble (n*sz) 16777216 then(match (bif eF ps n then nk sz 0 ps else none) with
   | some es=> .jU r fun g=> .bo r {gen:=g,sz,arr:=true,fz:=false,es:=some es} (.done (.sl r g 0 n))
   | none=>match fE sz (List.replicate n zero) ps with
     | some es=> .jU r fun g=> .bo r {gen:=g,sz,arr:=true,fz:=false,es:=some es} (.done (.sl r g 0 n))
     | none=> .fail) else .fail
 | .pJ r sz=>bif Nat.ble 1 sz then .jU r fun g=> .bo r {gen:=g,sz,arr:=true,fz:=false,es:=some []} (.done (.sl r g 0 0)) else .fail
 | .YI r x=>dV x fun
   | .sl r1 g off len=>bif Nat.beq r1 r then .done (.sl r1 g off len) else .bG r1 fun ⟨bX,eX,cL,gk,fQ⟩=> .bD (bX=g) (.jU r fun g'=>
       .bo r ⟨g',eX,cL,gk,fQ⟩ (.bo r1 ⟨bX+1,eX,cL,gk,none⟩ (.done (.sl r g' off len))))
   | v=> .done v
 | .makeSlice r sz bytes zero len cap=>dV len fun l=>dV cap fun c=>match l,c with
   | .int _ n,.int _ m=> .bD (0≤n∧n≤m∧m*bytes≤140737488355328∧aO zero sz=true∧0 <sz∧m≤9223372036854775807)
       (.jU r fun g=> .bo r {gen:=g,sz,arr:=true,fz:=false,es:=some (List.replicate m.toNat zero)} (.done (.sl r g 0 n.toNat)))
   | _,_=> .fail
 | .load agg sz x=>dV x fun
   | .ptr r g idx off=> .bG r fun ⟨bX,eX,cL,gk,fQ⟩=>match fQ with
     | some es=> .bD (bX=g) (match cL with
       | true=> .ex V (fun e=>es[idx]? =some e) fun e=>nW agg off sz e
       | false=>match es,idx with
         | [e],0=>nW agg off sz e
         | es,idx=> .ex V (fun e=>es[idx]? =some e) fun e=>nW agg off sz e)
     | none=> .fail
   | .eptr e off=>nW agg off sz e
   | .epk _ _ e off=>nW agg off sz e
   | _=> .fail
 | .store agg sz x v=>dV x fun
   | .ptr r g idx off=> .bG r fun ⟨bX,eX,cL,gk,fQ⟩=>match cL with
     | true=>dV v fun v=>xr v fun v=>xu agg sz r g idx off v
     | false=>dV v fun v=>xu agg sz r g idx off v
   | _=> .fail
 | .nilCheck x=>dV x fun
   | .ptr r g idx off=> .done (.ptr r g idx off)
   | .eptr e off=> .done (.eptr e off)
   | .epk i z e off=> .done (.epk i z e off)
   | .fn f caps=> .done (.fn f caps)
   | .bfn f caps=> .done (.bfn f caps)
   | _=> .fail
 | .bin op x y=>dV x fun a=>dV y fun b=>Lk op a b
 | .NO neg x y=>dV x fun a=>dV y fun b=>match a,b with
   | .bool a,.bool b=> .done (.bool ((a==b) !=neg))
   | _,_=> .fail
 | .Nl neg ks x y=>dV x fun a=>dV y fun b=>match a,b with
   | .agg as,.agg bs=>match ez ks as bs with
       | some b=> .done (.bool (b !=neg))
       | none=> .fail
   | _,_=> .fail
 | .un op x=>dV x fun a=>iD (A0 op a)
 | .pK k x=>dV x fun| .int _ n=> .done (.int k (k.wrap n)) | _=> .fail
 | .tT x=>dV x fun| .int _ n=> .done (.float (FloatKind.f64.nearest n)) | _=> .fail
 | .tU k x=>dV x fun
   | .float b=> .ex Int (fun n=> (FloatKind.f64.decode b).toInt .zero=some n∧k.min≤n∧n≤k.max) fun n=> .done (.int k n)
   | _=> .fail
 | .pL x=>dV x fun| .str s=> .done (.str s) | _=> .fail
 | .pM t x=>dV x fun v=> .done (.iface t v)
 | .assert t ok zero x=>dV x fun
   | .nili=>match ok with| true=> .done (.tuple [zero,.bool false]) | false=> .fail
   | .iface t' v=>bif Nat.beq t' t then(match ok with| true=> .done (.tuple [v,.bool true]) | false=> .done v) else(match ok with| true=> .done (.tuple [zero,.bool false]) | false=> .fail)
   | _=> .fail
 | .tV f caps=>yS caps fun vs=> .done (.fn f vs)
 | .je x lo hi=>dV x fun v=>Dk lo fun l=>Dk hi fun h=>qU v l h
 | .slice sz x lo hi mx=>dV x fun v=>Dk lo fun l=>Dk hi fun h=>Dk mx fun m=>Lo sz v l h m
 | .fieldAddr off x=>dV x fun
   | .ptr r g idx o=> .done (.ptr r g idx (o+off))
   | .eptr e o=> .done (.eptr e (o+off))
   | .epk i z e o=> .done (.epk i z e (o+off))
   | _=> .fail
 | .field agg off sz x=>dV x fun
   | .agg cs=>nW agg off sz (.agg cs)
   | _=> .fail
 | .indexAddr sz x i=>dV x fun v=>dV i fun i=>Ln sz v i
 | .mc n sz x i=>dV x fun v=>dV i fun i=>match v,i with
   | .ptr r g idx off,.int _ j=> .bD (0≤j∧j<n) (.done (.ptr r g idx (off+j.toNat*sz)))
   | .eptr e off,.int _ j=> .bD (0≤j∧j<n) (.done (.eptr e (off+j.toNat*sz)))
   | _,_=> .fail
 | .mf x i=>dV x fun v=>dV i fun i=>match v,i with
   | .str s,.int _ n=> .bD (0≤n) (.ex UInt8 (fun b=>s[n.toNat]? =some b) fun b=> .done (.int .u8 b.toNat))
   | _,_=> .fail
 | .mg agg n sz x i=>dV x fun v=>dV i fun i=>match i with
   | .int _ j=> .bD (0≤j∧j<n∧v.isAgg=true) (.ex V (fun e=>part agg (j.toNat*sz) sz v=some e) fun e=> .done e)
   | _=> .fail
 | .len x=>dV x fun v=>iD (nM v)
 | .tW x=>dV x fun| .str s=> .done (.int .i64 s.length) | _=> .fail
 | .min xs=>yS xs fun vs=>iD (gu min2 vs)
 | .max xs=>yS xs fun vs=>iD (gu max2 vs)
 | .append r sz gr s x=>dV s fun s=>dV x fun x=>hJ sz x fun ys=>Ff ys fun ys=>kX r sz gr s ys
 | .copy sz d s=>dV d fun d=>dV s fun s=>hJ sz s fun ys=>match d with
   | .nils=> .done (.int .i64 0)
   | .sl r g off len=> .bG r fun ⟨bX,eX,cL,gk,fQ⟩=>match fQ with
     | some es=>
       .bD (bX=g∧cL=true∧gk=false∧eX=sz∧off+len≤es.length∧(ys.take len).all (aO · sz)=true)
         (.bo r ⟨bX,eX,cL,gk,some (overwrite es off (ys.take len))⟩ (.done (.int .i64 (ys.take len).length)))
     | none=> .fail
   | _=> .fail
 | .clear sz zero x=>dV x fun
   | .nils=> .done (.tuple [])
   | .sl r g off len=> .bG r fun ⟨bX,eX,cL,gk,fQ⟩=>match fQ with
     | some es=> .bD (bX=g∧cL=true∧gk=false∧eX=sz∧off+len≤es.length∧aO zero sz=true)
         (.bo r ⟨bX,eX,cL,gk,some (overwrite es off (List.replicate len zero))⟩ (.done (.tuple [])))
     | none=> .fail
   | _=> .fail
 | .extract x i=>dV x fun
   | .tuple vs=>iD (nth vs i)
   | _=> .fail
 | .call r bg f args=>dV f fun
   | .fn f caps=>yS args fun as=>bif Nat.beq (r % 16) 4 then .Nk (AM.gE E r bg f (as++caps)) else jG E r bg f (as++caps)
   | .bfn f first=>yS args fun as=>jG E r bg f (first++as)
   | _=> .fail
 | .hY i r sz zero n parts=>dV (.tmp i) fun
   | .int _ j=>pI parts fun ps=>A5 (r+16*j.toNat) sz zero n ps
   | _=> .fail
 | .ia r sz zero n parts=>qV parts fun ps=>A5 r sz zero n ps
 | .pN r sz gr s x=>dV s fun s=>dV x fun x=>hJ sz x fun ys=>kX r sz gr s ys
 | .deep x=>dV x fun v=> .Nk (xw v)
 | .we ks agg sz x=>dV x fun
   | .ptr r g idx off=> .bG r fun ⟨bX,eX,cL,gk,fQ⟩=>match fQ with
     | some es=> .bD (bX=g) (match es,idx with
       | [e],0=>iD ((tN agg off sz e).map (AP ks))
       | _,_=> .fail)
     | none=> .fail
   | _=> .fail
 | .mkMap r=> .jU r fun g=> .bo r {gen:=g,sz:=0,arr:=false,fz:=false,es:=some []} (.done (.mp r g))
 | .qW q x k v=>dV x fun
   | .mp r g=>dV k fun k=>dV v fun v=>xr v fun v=> .bG r fun ⟨bX,eX,cL,gk,fQ⟩=>match fQ with
     | some es=> .bD (bX=g∧eX=0∧gk=false∧isKey q k=true∧v.cJ=true) (.ex (List V) (fun es'=>mh k v es=some es') fun es'=>
         .bo r ⟨bX,eX,cL,gk,some es'⟩ (.done (.tuple [])))
     | none=> .fail
   | _=> .fail
 | .tX q ok zero x k=>dV x fun x=>dV k fun k=> .bD (isKey q k=true) (match x with
   | .mp r g=> .bG r fun ⟨bX,eX,cL,gk,fQ⟩=>match fQ with
     | some es=> .bD (bX=g∧eX=0) (.ex V (fun v=>iJ ok zero es k= .done v) fun v=> .done v)
     | none=> .fail
   | .mlit es=> .ex V (fun v=>iJ ok zero es k= .done v) fun v=> .done v
   | _=> .fail)
 | .Fh x=>dV x fun v=> (match v with
   | .fn .. =>fU 5 v fun v' rs=>kV rs (.done v')
   | _=>xr v .done)
 | .pO r x=>dV x fun
   | .str s=> .jU r fun g=> .bo r {gen:=g,sz:=0,arr:=false,fz:=false,es:=some [.str s,.int .i64 0]} (.done (.it r g))
   | _=> .fail
 | .pP x=>  dV x fun
   | .it r g=> .bG r fun ⟨bX,eX,cL,gk,fQ⟩=>match fQ with
     | some [.str s,.int .i64 p]=> .bD (bX=g∧eX=0∧gk=false) (.ite (decide (p.toNat<s.length))
         (.bo r ⟨bX,eX,cL,gk,some [.str s,.int .i64 ((p.toNat+(Utf8.decode ⟨s.toArray⟩ p.toNat).2:Nat):Int)]⟩
           (.done (.tuple [.bool true,.int .i64 (p.toNat:Int),.int .i32 ((Utf8.decode ⟨s.toArray⟩ p.toNat).1:Int)])))
         (.done (.tuple [.bool false])))
     | _=> .fail
   | _=> .fail
 | .NP neg ks x y=>dV x fun a=>dV y fun b=>match a,b with
   | .iface t p,.iface t' q=>bif Nat.beq t t' then(match oI t ks with
       | some k=> (match vM k p q with
         | some b=> .done (.bool (b !=neg))
         | none=> .fail)
       | none=> .fail) else .fail
   | .nili,.iface _ _=> .done (.bool neg)
   | .iface _ _,.nili=> .done (.bool neg)
   | _,_=> .fail
 | .Lm neg x y=>dV x fun a=>dV y fun b=>Ll neg a b
 | .mapIter r x=>dV x fun
   | .mlit es=> .jU r fun g=> .bo r {gen:=g,sz:=0,arr:=false,fz:=false,es:=some [.mlit es]} (.done (.it r g))
   | _=> .fail
 | .mi x=>dV x fun
   | .str s=> .done (.lit 1 (s.map fun b=> .int .u8 b.toNat))
   | _=> .fail
 | .mj x=>dV x fun
   | .str _=> .fail
   | x=>hJ 1 x fun ys=>iD ((bytesOf ys).map .str)
 | .pQ f xs=>yS xs fun vs=> .done (.bfn f vs)
 | .pR f caps=>tP caps fun vs=> .done (.fn f vs)
 | .Fi r sz x=>dV x fun v=>xr v fun v=>bif il v sz &&Nat.ble 1 sz then .jU r fun g=> .bo r {gen:=g,sz,arr:=false,fz:=false,es:=some [v]} (.done (.ptr r g 0 0)) else .fail
 | .pS r g N sz s x=>dV s fun s=>dV x fun x=>hJ sz x fun ys=> .bD (ys.all (aO · sz)=true) <| bif Nat.ble 1 sz then(match s with
   | .sl r' g' off len=> .bD (r'=r∧g'=g∧off=0∧0 <ys.length∧len+ys.length≤N) <| .bG r fun ⟨bX,eX,cL,gk,fQ⟩=>match fQ with
     | some es=> .bD (bX=g∧gk=false∧eX=sz∧es.length=len) (.bo r ⟨bX,eX,cL,gk,some (es++ys)⟩ (.done (.sl r g 0 (len+ys.length))))
     | none=> .fail
   | _=> .fail) else .fail
 | .pT m r g N sz gr s x=>dV s fun s=>dV x fun x=>hJ sz x fun ys=> .bD (ys.all (aO · sz)=true) <| bif Nat.ble 1 sz then(match s with
   | .sl r' g' off len=> .bD (r'=r∧g'=g∧off=0∧0 <ys.length∧N<len+ys.length∧len+ys.length≤gr) <| .bG r fun ⟨bX,eX,cL,gk,fQ⟩=>match fQ with
     | some es=> .bD (bX=g∧gk=false∧eX=sz∧es.length=len) (.jU m fun g'=> .bo m {gen:=g',sz,arr:=true,fz:=false,es:=some (es++ys)} (.done (.sl m g' 0 (len+ys.length))))
     | none=> .fail
   | _=> .fail) else .fail
 | .bad=> .fail
theorem Ref.J2 {r sz:Nat} {zero:V} {n:Nat} {ps:List (Nat×V)}:Ref (A5 r sz zero n ps) (match b6 sz (List.replicate n zero) ps with
   | some es=>if aO zero sz &&decide (0 <sz∧n*sz≤16777216) then AM.Act.bG r fun o=>AM.Act.bo r {gen:=o.gen+1,sz,arr:=true,fz:=false,es:=some es} (.done (.sl r (o.gen+1) 0 n)) else AM.Act.fail
   | none=>AM.Act.fail):=by
 refine Ref.yT fun h=> ?_
 simp only[Bool.and_eq_true] at h
 have h1:=gD h.1.1
 have h2:0 <sz:=Nat.le_of_ble_eq_true h.1.2
 have h3:n*sz≤16777216:=Nat.le_of_ble_eq_true h.2
 split
 · rename_i es he
   have hl:eF ps n=true:=by
     cases hb:eF ps n with
     | true=>rfl
     | false=>simp[hb] at he
   simp only[hl,cond_true] at he
   have h4:=oH (pre:=[]) (es:=List.replicate n zero) he rfl (by simp[jb hl])
   simp only[List.nil_append] at h4
   simp only[h4,h1,h2,h3,and_self,decide_true,Bool.and_self,if_true]
   exact⟨_,rfl,fun o=> ⟨_,rfl,rfl⟩⟩
 · cases hf:fE sz (List.replicate n zero) ps with
   | none=>trivial
   | some es=>
     simp only[jV hf,h1,h2,h3,and_self,decide_true,Bool.and_self,if_true]
     exact⟨_,rfl,fun o=> ⟨_,rfl,rfl⟩⟩
theorem Ref.op {E:Env} {o:rP}:Ref (YH E o) (aw E o):=by
 cases o with
 | hY i r sz zero n parts=>
   refine⟨_,rfl,fun v=> ?_⟩
   cases v<;>first| trivial| skip
   exact Ref.dK fun ps=>Ref.J2
 | ia r sz zero n parts=>exact Ref.hP fun ps=>Ref.J2
 | mkMap r=>exact⟨_,rfl,fun o=> ⟨_,rfl,rfl⟩⟩
 | pO r x=>
   refine Ref.ev fun v=> ?_
   cases v<;>first| trivial| exact⟨_,rfl,fun o=> ⟨_,rfl,rfl⟩⟩
 | pP x=>
   refine Ref.ev fun v=> ?_
   cases v<;>first| trivial| skip
   refine⟨_,rfl,fun ⟨gen,sz,arr,fz,es⟩=> ?_⟩
   simp only
   split
   · intro hc
     obtain⟨rfl,rfl,rfl⟩:=hc
     simp only[and_self,if_true]
     refine⟨fun he=> ?_,fun he=> ?_⟩
     · rw[if_pos (by simpa using he)];exact⟨_,rfl,rfl⟩
     · rw[if_neg (by simpa using he)];exact rfl
   · trivial
 | Fh x=>
   refine Ref.ev fun v=> ?_
   cases v with
   | fn f caps=>exact Ref.dh fun v' rs=>Ref.b7 rfl
   | _=>exact Ref.sM fun v=>rfl
 | qW q x k v=>
   refine Ref.ev fun x=> ?_
   cases x<;>first| trivial| skip
   refine Ref.ev fun k=>Ref.ev fun v=>Ref.sM fun v=> ⟨_,rfl,fun ⟨gen,sz,arr,fz,es⟩=> ?_⟩
   cases es with
   | none=>trivial
   | some es=>
     rintro hc es' he
     simp only[hc,he,and_self,if_true]
     exact⟨_,by simp[hc],rfl⟩
 | tX q ok zero x k=>
   refine Ref.ev fun x=>Ref.ev fun k=> ?_
   intro hk
   simp only[hk,if_true]
   cases x<;>first| trivial| skip
   case mp r g=>
     refine⟨_,rfl,fun ⟨gen,sz,arr,fz,es⟩=> ?_⟩
     cases es with
     | none=>trivial
     | some es=>
       rintro hc v hv
       show (if gen=g∧sz=0 then iJ ok zero es k else Act.fail)= .done v
       rw[if_pos hc]
       exact hv
   case mlit es=>
     rintro v hv
     exact hv
 | pN r sz gr s x=>exact Ref.ev fun s=>Ref.ev fun x=>Ref.content fun ys=>Ref.append
 | deep=>exact Ref.ev fun v=>rfl
 | we ks agg sz x=>
   refine Ref.ev fun v=> ?_
   cases v<;>first| trivial| skip
   case ptr r g idx off=>
     refine⟨_,rfl,fun ⟨gen,sz',arr,fz,es⟩=> ?_⟩
     cases es with
     | none=>trivial
     | some es=>
       intro hc
       try simp only at hc
       simp only[hc,if_true]
       split
       · simp only[List.getElem?_cons_zero]
         exact Ref.cz fun v hv=>by
          obtain⟨v0,h0,rfl⟩:=Option.map_eq_some_iff.1 hv
          rw[jc h0];rfl
       · trivial
 | move x=>exact Ref.ev fun v=>rfl
 | pick c a b=>
   refine Ref.ev fun v=> ?_
   cases v
   case bool c=>cases c with
     | true=>exact⟨fun _=>Ref.ev (fun v=>rfl),fun h=> (by cases h)⟩
     | false=>exact⟨fun h=> (by cases h),fun _=>Ref.ev (fun v=>rfl)⟩
   all_goals trivial
 | new r sz x=>
   refine Ref.ev fun v=>Ref.yT fun h=> ?_
   simp only[Bool.and_eq_true] at h
   have h1:=gD h.1
   have h2:0 <sz:=Nat.le_of_ble_eq_true h.2
   simp only[h1,h2,decide_true,Bool.and_self,if_true]
   exact⟨_,rfl,fun o=> ⟨_,rfl,rfl⟩⟩
 | build cells parts=>
   refine Ref.eE fun ps=> ?_
   cases hf:jd cells ps with
   | none=>trivial
   | some cs=>simp only[nX hf,force_eq];exact rfl
 | buildSlice r sz zero n parts=>
   refine Ref.dK fun ps=>Ref.yT fun h=> ?_
   simp only[Bool.and_eq_true] at h
   have h1:=gD h.1.1
   have h2:0 <sz:=Nat.le_of_ble_eq_true h.1.2
   have h3:n*sz≤16777216:=Nat.le_of_ble_eq_true h.2
   split
   · rename_i es he
     have hl:eF ps n=true:=by
       cases hb:eF ps n with
       | true=>rfl
       | false=>simp[hb] at he
     simp only[hl,cond_true] at he
     have h4:=oH (pre:=[]) (es:=List.replicate n zero) he rfl (by simp[jb hl])
     simp only[List.nil_append] at h4
     simp only[h4,h1,h2,h3,and_self,decide_true,Bool.and_self,if_true]
     exact⟨_,rfl,fun o=> ⟨_,rfl,rfl⟩⟩
   · cases hf:fE sz (List.replicate n zero) ps with
     | none=>trivial
     | some es=>
       simp only[jV hf,h1,h2,h3,and_self,decide_true,Bool.and_self,if_true]
       exact⟨_,rfl,fun o=> ⟨_,rfl,rfl⟩⟩
 | pJ r sz=>
   refine Ref.yT fun h=> ?_
   have h2:0 <sz:=Nat.le_of_ble_eq_true h
   simp only[aw,h2,if_true]
   exact⟨_,rfl,fun o=> ⟨_,rfl,rfl⟩⟩
 | YI r x=>
   refine Ref.ev fun v=> ?_
   cases v
   case sl r1 g off len=>
     cases hb:Nat.beq r1 r with
     | true=>
       obtain rfl:=Nat.eq_of_beq_eq_true hb
       simp only[if_true,hb,cond_true]
       exact rfl
     | false=>
       have:r1≠r:=Nat.ne_of_beq_eq_false hb
       simp only[hb,cond_false,this,if_false]
       refine⟨_,rfl,fun ⟨gen,sz',arr,fz,es⟩=> ?_⟩
       intro hg
       have Zj:gen=g:=hg
       subst Zj
       simp only[if_true]
       exact⟨_,rfl,fun o=> ⟨_,rfl,_,rfl,rfl⟩⟩
   all_goals exact rfl
 | makeSlice r sz bytes zero len cap=>
   refine Ref.ev fun l=>Ref.ev fun c=> ?_
   cases l<;>first| trivial| skip
   cases c<;>first| trivial| skip
   intro h
   simp only[h,and_self,if_true]
   exact⟨_,rfl,fun o=> ⟨_,rfl,rfl⟩⟩
 | load agg sz x=>
   refine Ref.ev fun v=> ?_
   cases v<;>first| trivial| skip
   case ptr r g idx off=>
     refine⟨_,rfl,fun ⟨gen,sz',arr,fz,es⟩=> ?_⟩
     cases es with
     | none=>trivial
     | some es=>
       intro hc
       try simp only at hc
       simp only[hc,if_true]
       have Dm:Ref (.ex V (fun e=>es[idx]? =some e) fun e=>nW agg off sz e) (match es[idx]? with
         | some e=>AM.cz (part agg off sz e)
         | none=> .fail):=by
         intro e he
         simp only[he]
         rw[mb];exact Ref.cz fun v hv=>jc hv
       cases arr with
       | true=>exact Dm
       | false=>
         simp only
         split
         · rw[mb];exact Ref.cz fun v hv=>jc hv
         · exact Dm
   case eptr e off=>simp only[mb];exact Ref.cz fun v hv=>jc hv
   case epk i z e off=>simp only[mb];exact Ref.cz fun v hv=>jc hv
 | store agg sz x v=>
   refine Ref.ev fun v=> ?_
   cases v<;>first| trivial| skip
   refine⟨_,rfl,fun ⟨gen,sz',arr,fz,es⟩=> ?_⟩
   cases arr with
   | true=>exact Ref.ev fun v=>Ref.sM fun v=>Ref.jE
   | false=>exact Ref.ev fun v=>Ref.jE
 | nilCheck x=>exact Ref.ev fun v=>by cases v<;>first| trivial| exact rfl
 | bin op x y=>exact Ref.ev fun a=>Ref.ev fun b=>Ref.bin
 | NO neg x y=>
   refine Ref.ev fun a=>Ref.ev fun b=> ?_
   cases a<;>first| trivial| skip
   cases b<;>first| trivial| exact rfl
 | Nl neg ks x y=>
   refine Ref.ev fun a=>Ref.ev fun b=> ?_
   cases a<;>first| trivial| skip
   cases b<;>first| trivial| skip
   rename_i as bs
   simp only
   cases ez ks as bs with
   | none=>trivial
   | some b=>exact rfl
 | un op x=>exact Ref.ev fun a=>Ref.ew
 | pK k x=>exact Ref.ev fun v=>by cases v<;>first| trivial| exact rfl
 | tT x=>exact Ref.ev fun v=>by cases v<;>first| trivial| exact rfl
 | tU k x=>
   refine Ref.ev fun v=> ?_
   cases v<;>first| trivial| skip
   rintro n ⟨h1,h2,h3⟩
   simp only[h1,h2,h3,and_self,if_true]
   exact rfl
 | pL x=>exact Ref.ev fun v=>by cases v<;>first| trivial| exact rfl
 | pM t x=>exact Ref.ev fun v=>rfl
 | assert t ok zero x=>
   refine Ref.ev fun v=> ?_
   cases v<;>first| trivial| skip
   case nili=>cases ok<;>first| trivial| exact rfl
   case iface t' v=>
     cases hb:Nat.beq t' t with
     | true=>
       have:=Nat.eq_of_beq_eq_true hb
       cases ok<;>simp[hb,this,Ref]
     | false=>
       have:t'≠t:=Nat.ne_of_beq_eq_false hb
       cases ok<;>simp[hb,this,Ref]
 | tV f caps=>exact Ref.fg fun v=>rfl
 | je x lo hi=>exact Ref.ev fun v=>Ref.vE fun l=>Ref.vE fun h=>Ref.je
 | slice sz x lo hi mx=>
   rw[ni]
   exact Ref.ev fun v=>Ref.vE fun l=>Ref.vE fun h=>Ref.vE fun m=>Ref.slc
 | fieldAddr off x=>exact Ref.ev fun v=>by cases v<;>first| trivial| exact rfl
 | field agg off sz x=>
   refine Ref.ev fun v=> ?_
   cases v<;>first| trivial| skip
   rename_i cs
   show Ref (nW agg off sz (V.agg cs)) (AM.cz (part agg off sz (V.agg cs)))
   rw[mb]
   exact Ref.cz fun v hv=>jc hv
 | indexAddr sz x i=>
   rw[gU]
   exact Ref.ev fun v=>Ref.ev fun i=>Ref.idx
 | mc n sz x i=>
   refine Ref.ev fun v=>Ref.ev fun i=> ?_
   cases v<;>first| trivial| skip
   all_goals
     cases i<;>first| trivial| skip
     intro h
     simp only[h,and_self,if_true]
     exact rfl
 | mf x i=>
   refine Ref.ev fun v=>Ref.ev fun i=> ?_
   cases v<;>first| trivial| skip
   cases i<;>first| trivial| skip
   intro h b hb
   simp only[h,if_true,hb]
   exact rfl
 | mg agg n sz x i=>
   refine Ref.ev fun v=>Ref.ev fun i=> ?_
   cases i<;>first| trivial| skip
   intro h e he
   simp only[h,and_self,if_true,he]
   exact rfl
 | len x=>exact Ref.ev fun v=>Ref.ew
 | tW x=>exact Ref.ev fun v=>by cases v<;>first| trivial| exact rfl
 | min xs=>exact Ref.fg fun vs=>Ref.ew
 | max xs=>exact Ref.fg fun vs=>Ref.ew
 | append r sz gr s x=>
   rw[kR]
   exact Ref.ev fun s=>Ref.ev fun x=>Ref.content fun ys=>Ref.iH fun ys=>Ref.append
 | copy sz d s=>
   refine Ref.ev fun d=>Ref.ev fun s=>Ref.content fun ys=> ?_
   cases d<;>first| trivial| exact rfl| skip
   refine⟨_,rfl,fun ⟨gen,sz',arr,fz,es⟩=> ?_⟩
   cases es with
   | none=>trivial
   | some es=>
     intro hc
     try simp only at hc
     simp only[hc,and_self,if_true]
     exact⟨_,by simp[hc],rfl⟩
 | clear sz zero x=>
   refine Ref.ev fun d=> ?_
   cases d<;>first| trivial| exact rfl| skip
   refine⟨_,rfl,fun ⟨gen,sz',arr,fz,es⟩=> ?_⟩
   cases es with
   | none=>trivial
   | some es=>
     intro hc
     try simp only at hc
     simp only[hc,and_self,if_true]
     exact⟨_,by simp[hc],rfl⟩
 | extract x i=>
   refine Ref.ev fun v=> ?_
   cases v<;>first| trivial| skip
   simp only[A4]
   exact Ref.ew
 | call r bg f args=>
   refine Ref.ev fun v=> ?_
   cases v<;>first| trivial| skip
   case fn g caps=>
     refine Ref.fg fun as=> ?_
     cases hb:Nat.beq (r % 16) 4 with
     | true=>simp only[cond_true];exact rfl
     | false=>simp only[cond_false];exact Ref.gE
   case bfn g first=>exact Ref.fg fun as=>Ref.gE
 | NP neg ks x y=>
   refine Ref.ev fun a=>Ref.ev fun b=> ?_
   cases a<;>first| trivial| skip
   case nili=>cases b<;>first| trivial| exact rfl
   case iface t p=>
     cases b<;>first| trivial| exact rfl| skip
     rename_i t' q
     cases hb:Nat.beq t t' with
     | true=>
       have:=Nat.eq_of_beq_eq_true hb
       subst this
       simp only[hb,cond_true,if_true]
       cases oI t ks with
       | none=>trivial
       | some k=>
         simp only
         cases vM k p q with
         | none=>trivial
         | some b=>exact rfl
     | false=>simp only[hb,cond_false];trivial
 | Lm neg x y=>exact Ref.ev fun a=>Ref.ev fun b=>Ref.Lm
 | mapIter r x=>
   refine Ref.ev fun v=> ?_
   cases v<;>first| trivial| exact⟨_,rfl,fun o=> ⟨_,rfl,rfl⟩⟩
 | mi x=>exact Ref.ev fun v=>by cases v<;>first| trivial| exact rfl
 | mj x=>
   refine Ref.ev fun v=> ?_
   cases v<;>first| trivial| exact Ref.content fun ys=>Ref.ew
 | Fi r sz x=>
   refine Ref.ev fun v=>Ref.sM fun v=> ?_
   refine Ref.yT fun h=> ?_
   simp only[Bool.and_eq_true] at h
   simp only[gD h.1,show 0 <sz from Nat.le_of_ble_eq_true h.2,decide_true,Bool.and_self,if_true]
   exact⟨_,rfl,fun o=> ⟨_,rfl,rfl⟩⟩
 | pS r g N sz s x=>
   refine Ref.ev fun s=>Ref.ev fun x=>Ref.content fun ys=> ?_
   intro hy
   refine Ref.yT fun h=> ?_
   simp only[hy,show 0 <sz from Nat.le_of_ble_eq_true h,decide_true,Bool.and_self,if_true]
   cases s<;>first| trivial| skip
   case sl r' g' off len=>
     intro eB
     simp only[eB,and_self,if_true]
     refine⟨_,rfl,fun ⟨gen,sz',arr,fz,es⟩=> ?_⟩
     cases es with
     | none=>trivial
     | some es=>
       intro hc
       try simp only at hc
       simp only[hc,and_self,if_true]
       exact⟨_,rfl,rfl⟩
 | pT m r g N sz gr s x=>
   refine Ref.ev fun s=>Ref.ev fun x=>Ref.content fun ys=> ?_
   intro hy
   refine Ref.yT fun h=> ?_
   simp only[hy,show 0 <sz from Nat.le_of_ble_eq_true h,decide_true,Bool.and_self,if_true]
   cases s<;>first| trivial| skip
   case sl r' g' off len=>
     intro eB
     simp only[eB,and_self,if_true]
     refine⟨_,rfl,fun ⟨gen,sz',arr,fz,es⟩=> ?_⟩
     cases es with
     | none=>trivial
     | some es=>
       intro hc
       try simp only at hc
       simp only[hc,and_self,if_true]
       exact⟨_,rfl,fun o=> ⟨_,rfl,rfl⟩⟩
 | pQ f xs=>exact Ref.fg fun vs=>rfl
 | pR f caps=>exact Ref.iI fun vs=>rfl
 | bad=>trivial
end Go.AM
namespace Go.AM
def Cp (E:Env) (o:bJ):bj:=match o.guard with
 | none=>YH E o.op
 | some (t,want)=> .lQ t fun
   | .bool b=> (match want with
     | true=> .ite b (YH E o.op) (.done dC)
     | false=> .ite b (.done dC) (YH E o.op))
   | .tuple []=> .done dC
   | _=> .fail
theorem Ref.oper {E:Env} {o:bJ}:Ref (Cp E o) (dm E o):=by
 unfold Cp dm
 cases o.guard with
 | none=>exact Ref.op
 | some p=>
   obtain⟨t,want⟩:=p
   refine⟨_,rfl,fun v=> ?_⟩
   cases v<;>first| trivial| skip
   case bool b=>cases b<;>cases want<;>simp[Ref,Ref.op]
   case tuple vs=>cases vs with
    | nil=>exact rfl
    | cons=>trivial
def Dn (E:Env):List bJ→SS→(SS→Prop)→Prop
 | [],S,Q=>Q S
 | o::os,S,Q=>en E (Cp E o) S fun v S' _ _=>match S' with
   | ⟨T,O⟩=>match o.dst with
     | some d=>Dn E os ⟨(d,v)::T,O⟩ Q
     | none=>Dn E os ⟨T,O⟩ Q
def A6 (E:Env):List bJ→SS→(List cI→SS→Prop)→Prop
 | [],S,Q=>Q [] S
 | o::os,S,Q=>en E (Cp E o) S fun v S' r w=>match S' with
   | ⟨T,O⟩=>match o.dst with
     | some d=>A6 E os ⟨(d,v)::T,O⟩ fun fs Lp=>Q (⟨r,.t d::w⟩::fs) Lp
     | none=>A6 E os ⟨T,O⟩ fun fs Lp=>Q (⟨r,w⟩::fs) Lp
section
variable {E:Env}
theorem A7 {a:Act} {σ:St} {Q:V→St→Prop} (h:pg E a σ fun v σ' _ _=>Q v σ'):wc E a σ Q:=by
 obtain⟨n,v,σ',h1,h2⟩:=h
 exact⟨n,v,σ',h1,h2⟩
theorem oJ: ∀ {os:List bJ} {S:SS} {Q:SS→Prop} {σ:St},Dn E os S Q→S.On σ→Io E os σ fun σ'=> ∃S',S'.On σ'∧Q S'
 | [],S,Q,σ,h,ho=>by rw[s6];exact⟨S,ho,h⟩
 | o::os,S,Q,σ,h,ho=>by
   rw[pq]
   refine A7 (ke (cC Ref.oper h ho) ?_)
   rintro v σ' r w ⟨⟨T,O⟩,rR,h'⟩
   have hp:=rR.put o.dst v
   cases hd:o.dst with
   | none=>simp only[hd] at h' hp ⊢;exact oJ h' hp
   | some d=>simp only[hd] at h' hp ⊢;exact oJ h' hp
theorem kY: ∀ {os:List bJ} {S:SS} {Q:List cI→SS→Prop} {σ:St},A6 E os S Q→S.On σ→NL E os σ fun fs σ'=> ∃S',S'.On σ'∧Q fs S'
 | [],S,Q,σ,h,ho=>by rw[s8];exact⟨S,ho,h⟩
 | o::os,S,Q,σ,h,ho=>by
   rw[pC]
   refine ke (cC Ref.oper h ho) ?_
   rintro v σ' r w ⟨⟨T,O⟩,rR,h'⟩
   have hp:=rR.put o.dst v
   cases hd:o.dst with
   | none=>simp only[hd] at h' hp ⊢;exact kY h' hp
   | some d=>simp only[hd] at h' hp ⊢;exact kY h' hp
def thenS (Q:aX→SS→Prop) (k:SS→Prop):aX→SS→Prop
 | .normal,S=>k S
 | .exit id,S=>Q (.exit id) S
 | .ret,S=>Q .ret S
def Fj (id:Nat) (Q:aX→SS→Prop):aX→SS→Prop
 | .exit jB,S=>bif Nat.beq jB id then Q .normal S else Q (.exit jB) S
 | .normal,S=>Q .normal S
 | .ret,S=>Q .ret S
structure aI (E:Env) (b:aW) (S:SS) (Q:aX→SS→Prop):Prop where
 h: ∀σ,S.On σ→ka E (.loop b) σ fun e σ'=> ∃S',S'.On σ'∧Q e S'
structure Fk (E:Env) (it nx ne id:Nat) (kT kO:List Nat) (h0 b l:aW) (S:SS) (Q:aX→SS→Prop):Prop where
 h: ∀σ,S.On σ→ka E (.keys it nx ne id kT kO h0 b l) σ fun e σ'=> ∃S',S'.On σ'∧Q e S'
structure A8 (E:Env) (x:aQ) (ps:List Nat) (a b:aW) (S:SS) (Q:aX→SS→Prop):Prop where
 h: ∀σ,S.On σ→ka E (.lY x ps a b) σ fun e σ'=> ∃S',S'.On σ'∧Q e S'
def lR (E:Env):aW→SS→(aX→SS→Prop)→Prop
 | .skip,S,Q=>Q .normal S
 | .region ops,S,Q=>Dn E ops S (Q .normal)
 | .drawn ops,S,Q=>A6 E ops S fun fs S'=>eA (Dj (ops.map (·.pre)) [] [] fs=true) (Q .normal S')
 | .seq a b,S,Q=>lR E a S (thenS Q fun S'=>lR E b S' Q)
 | .cond c a b,S,Q=>match c with
   | .tmp t=> (match lk S.T t with
     | some (.bool c)=>Br c (lR E a S Q) (lR E b S Q)
     | _=>False)
   | .const (.bool c)=>Br c (lR E a S Q) (lR E b S Q)
   | _=>False
 | .block id b,S,Q=>lR E b S (Fj id Q)
 | .loop b,S,Q=>aI E b S Q
 | .exit id,S,Q=>Q (.exit id) S
 | .ret,S,Q=>Q .ret S
 | .scope b,S,Q=>lR E b S Q
 | .bad,_,_=>False
 | .lY x ps a b,S,Q=>A8 E x ps a b S Q
 | .keys it nx ne id kT kO h0 b l,S,Q=>Fk E it nx ne id kT kO h0 b l S Q
theorem cq: ∀ {c:aW} {S:SS} {Q:aX→SS→Prop} {σ:St},lR E c S Q→S.On σ→ka E c σ fun e σ'=> ∃S',S'.On σ'∧Q e S'
 | .skip,S,Q,σ,h,ho=>by rw[kc];exact⟨S,ho,h⟩
 | .region ops,S,Q,σ,h,ho=>by rw[kN];exact oJ h ho
 | .drawn ops,S,Q,σ,h,ho=>by
   refine pD ?_
   have h1:=kY h ho
   refine gZ h1 ?_
   rintro fs σ' ⟨S',h2,h3,h4⟩
   exact⟨h3,S',h2,h4⟩
 | .seq a b,S,Q,σ,h,ho=>by
   rw[nd]
   refine ej (cq (c:=a) h ho) ?_
   rintro e σ' ⟨S',h1,h2⟩
   cases e with
   | normal=>exact cq (c:=b) h2 h1
   | exit id=>exact⟨S',h1,h2⟩
   | ret=>exact⟨S',h1,h2⟩
 | .cond c a b,S,Q,σ,h,ho=>by
   rw[pA]
   simp only[lR] at h
   cases c with
   | tmp t=>
     simp only at h
     split at h
     · rename_i c hc
       rw[jD,ho.1 t _ hc]
       cases c with
       | true=>exact cq (c:=a) (h.1 rfl) ho
       | false=>exact cq (c:=b) (h.2 rfl) ho
     · exact h.elim
   | const v=>
     cases v
     case bool c=>
       rw[gS]
       cases c with
       | true=>exact cq (c:=a) (h.1 rfl) ho
       | false=>exact cq (c:=b) (h.2 rfl) ho
     all_goals exact h.elim
 | .block id b,S,Q,σ,h,ho=>by
   rw[ng]
   refine ej (cq (c:=b) h ho) ?_
   rintro e σ' ⟨S',h1,h2⟩
   cases e with
   | normal=>exact⟨S',h1,h2⟩
   | ret=>exact⟨S',h1,h2⟩
   | exit jB=>
     simp only[Fj] at h2
     simp only[tI]
     cases hb:Nat.beq jB id with
     | true=>
       have:=Nat.eq_of_beq_eq_true hb
       simp only[hb,cond_true] at h2
       rw[if_pos this];exact⟨S',h1,h2⟩
     | false=>
       have:jB≠id:=Nat.ne_of_beq_eq_false hb
       simp only[hb,cond_false] at h2
       rw[if_neg this];exact⟨S',h1,h2⟩
 | .loop b,S,Q,σ,h,ho=>h.h σ ho
 | .exit id,S,Q,σ,h,ho=>by rw[pz];exact⟨S,ho,h⟩
 | .ret,S,Q,σ,h,ho=>by rw[s7];exact⟨S,ho,h⟩
 | .scope b,S,Q,σ,h,ho=>by rw[nc];exact cq (c:=b) h ho
 | .lY ..,S,Q,σ,h,ho=>h.h σ ho
 | .keys ..,S,Q,σ,h,ho=>h.h σ ho
 | .bad,_,_,_,h,_=>h.elim
theorem Zk {x:V}:aJ [x] 0 1=[x]:=rfl
def xx {α:Type}:List (Nat×α)→List (Nat×α)→Prop
 | [],_=>True
 | p::l,m=> (match lk m p.1 with
   | some x=>x=p.2
   | none=>False)∧xx l m
def SS.Sub (S S':SS):Prop:=xx S.T S'.T∧xx S.O S'.O
theorem xx.lk {α:Type}: ∀ {l m:List (Nat×α)},xx l m→ ∀ {n x},lk l n=some x→lk m n=some x
 | [],_,_,n,x,h=>by simp[AM.lk] at h
 | p::l,m,h,n,x,hx=>by
   rw[kU] at hx
   by_cases e:p.1=n
   · rw[if_pos e] at hx
     injection hx with hx
     have:=h.1
     subst e
     split at this
     · rename_i y hy;rw[hy,this,hx]
     · exact this.elim
   · rw[if_neg e] at hx
     exact xx.lk h.2 hx
theorem SS.Sub.on {S S':SS} (h:S.Sub S') {σ:St} (ho:S'.On σ):S.On σ:=
 ⟨fun t v hv=>ho.1 t v (h.1.lk hv),fun r o hr=>ho.2 r o (h.2.lk hr)⟩
def NQ (Q:aX→SS→Prop) (I:Nat→SS→Prop) (k:Nat):aX→SS→Prop
 | .normal,S=> ∃j,j<k∧ ∃S',S'.Sub S∧I j S'
 | .exit id,S=>Q (.exit id) S
 | .ret,S=>Q .ret S
theorem aI.of {b:aW} {Q:aX→SS→Prop} (I:Nat→SS→Prop) (hI: ∀k S,I k S→lR E b S (NQ Q I k)) {k:Nat} {S0 S:SS} (hs:S0.Sub S) (h0:I k S0):aI E b S Q:=by
 refine⟨fun σ ho=> ?_⟩
 refine rO (fun k σ=> ∃S,S.On σ∧I k S) ?_ k σ ⟨S0,hs.on ho,h0⟩
 rintro k σ ⟨S,hS,hi⟩
 refine ej (cq (hI k S hi) hS) ?_
 rintro e σ' ⟨S',h1,h2⟩
 cases e with
 | normal=>
   obtain⟨j,hj,Lp,h3,h4⟩:=h2
   exact⟨j,hj,Lp,h3.on h1,h4⟩
 | exit id=>exact⟨S',h1,h2⟩
 | ret=>exact⟨S',h1,h2⟩
theorem cT: ∀ {a:bj} {S:SS} {Q Q':KK},en E a S Q→(∀v S' r w,Q v S' r w→Q' v S' r w)→en E a S Q'
 | .done v,_,_,_,h,k=>k _ _ _ _ h
 | .fail,_,_,_,h,_=>h
 | .lQ t f,S,Q,Q',h,k=>by
   simp only[en] at h ⊢
   split
   · rename_i v hv
     rw[hv] at h
     exact cT h fun _ _ _ _ h=>k _ _ _ _ h
   · rename_i hv;rw[hv] at h;exact h
 | .bG t f,S,Q,Q',h,k=>by
   simp only[en] at h ⊢
   split
   · rename_i v hv
     rw[hv] at h
     exact cT h fun _ _ _ _ h=>k _ _ _ _ h
   · rename_i hv;rw[hv] at h;exact h
 | .bo t o f,⟨T,O⟩,Q,Q',h,k=>by
   simp only[en] at h ⊢
   exact cT h fun _ _ _ _ h=>k _ _ _ _ h
 | .jU t f,S,Q,Q',h,k=>by
   simp only[en] at h ⊢
   exact fun g=>cT (h g) fun _ _ _ _ h=>k _ _ _ _ h
 | .call f as c,S,Q,Q',h,k=>by
   simp only[en] at h ⊢
   obtain⟨res,h1,h2⟩:=h
   exact⟨res,h1,cT h2 k⟩
 | .bD p c,S,Q,Q',h,k=> ⟨h.1,cT h.2 k⟩
 | .ex α p c,S,Q,Q',h,k=>by
   obtain⟨x,h1,h2⟩:=h
   exact⟨x,h1,cT h2 k⟩
 | .ite b x y,S,Q,Q',h,k=> ⟨fun hb=>cT (h.1 hb) k,fun hb=>cT (h.2 hb) k⟩
 | .Nk a,S,Q,Q',h,k=> ⟨fun σ ho=>ke (h.h σ ho) fun v σ' r w ⟨S',h1,h2⟩=> ⟨S',h1,k _ _ _ _ h2⟩⟩
 | .alt x y,S,Q,Q',h,k=>by
   rcases h with h| h
   · exact .inl (cT h k)
   · exact .inr (cT h k)
 | .all f,S,Q,Q',h,k=>fun n=>cT (h n) k
theorem qX: ∀ {os:List bJ} {S:SS} {Q Q':SS→Prop},Dn E os S Q→(∀S',Q S'→Q' S')→Dn E os S Q'
 | [],_,_,_,h,k=>k _ h
 | o::os,_,_,_,h,k=>cT h fun _ ⟨T,O⟩ _ _ h=>by
   cases hd:o.dst with
   | none=>simp only[hd] at h ⊢;exact qX h k
   | some d=>simp only[hd] at h ⊢;exact qX h k
theorem qY: ∀ {os:List bJ} {S:SS} {Q Q':List cI→SS→Prop},A6 E os S Q→(∀fs S',Q fs S'→Q' fs S')→A6 E os S Q'
 | [],_,_,_,h,k=>k _ _ h
 | o::os,_,_,_,h,k=>cT h fun _ ⟨T,O⟩ _ _ h=>by
   cases hd:o.dst with
   | none=>simp only[hd] at h ⊢;exact qY h fun _ _ h=>k _ _ h
   | some d=>simp only[hd] at h ⊢;exact qY h fun _ _ h=>k _ _ h
theorem fW: ∀ {c:aW} {S:SS} {Q Q':aX→SS→Prop},lR E c S Q→(∀e S',Q e S'→Q' e S')→lR E c S Q'
 | .skip,_,_,_,h,k=>k _ _ h
 | .region _,_,_,_,h,k=>qX h fun _ h=>k _ _ h
 | .drawn _,_,_,_,h,k=>qY h fun _ _ h=> ⟨h.1,k _ _ h.2⟩
 | .seq a b,_,Q,Q',h,k=>fW (c:=a) h fun e S' h'=>by
   cases e with
   | normal=>exact fW (c:=b) h' k
   | exit id=>exact k _ _ h'
   | ret=>exact k _ _ h'
 | .cond c a b,S,Q,Q',h,k=>by
   simp only[lR] at h ⊢
   cases c with
   | tmp t=>
     simp only at h ⊢
     split at h
     · exact⟨fun hb=>fW (c:=a) (h.1 hb) k,fun hb=>fW (c:=b) (h.2 hb) k⟩
     · exact h.elim
   | const v=>
     cases v
     case bool c=>exact⟨fun hb=>fW (c:=a) (h.1 hb) k,fun hb=>fW (c:=b) (h.2 hb) k⟩
     all_goals exact h.elim
 | .block id b,_,Q,Q',h,k=>fW (c:=b) h fun e S' h'=>by
   cases e with
   | normal=>exact k _ _ h'
   | ret=>exact k _ _ h'
   | exit jB=>
     simp only[Fj] at h' ⊢
     cases hb:Nat.beq jB id with
     | true=>simp only[hb,cond_true] at h' ⊢;exact k _ _ h'
     | false=>simp only[hb,cond_false] at h' ⊢;exact k _ _ h'
 | .loop b,_,_,_,h,k=> ⟨fun σ ho=>ej (h.h σ ho) fun e σ' ⟨S',h1,h2⟩=> ⟨S',h1,k _ _ h2⟩⟩
 | .exit _,_,_,_,h,k=>k _ _ h
 | .ret,_,_,_,h,k=>k _ _ h
 | .scope b,_,_,_,h,k=>fW (c:=b) h k
 | .lY ..,_,_,_,h,k=> ⟨fun σ ho=>ej (h.h σ ho) fun e σ' ⟨S',h1,h2⟩=> ⟨S',h1,k _ _ h2⟩⟩
 | .keys ..,_,_,_,h,k=> ⟨fun σ ho=>ej (h.h σ ho) fun e σ' ⟨S',h1,h2⟩=> ⟨S',h1,k _ _ h2⟩⟩
 | .bad,_,_,_,h,_=>h
inductive aE {α:Type} (Sh:α→SS) (P:α→Prop) (μ:α→Nat) (a:α) (S:SS):Prop
 | mk (a':α) (h1:μ a'<μ a) (h2:P a') (h3: (Sh a').Sub S)
def Fl {α:Type} (Q:aX→SS→Prop) (Sh:α→SS) (P:α→Prop) (μ:α→Nat) (a:α):aX→SS→Prop
 | .normal,S=>aE Sh P μ a S
 | .exit id,S=>Q (.exit id) S
 | .ret,S=>Q .ret S
theorem aI.by {α:Type} {b:aW} {Q:aX→SS→Prop} {S:SS} (Sh:α→SS) (P:α→Prop) (μ:α→Nat) (a0:α) (hs: (Sh a0).Sub S) (h0:P a0)
   (step: ∀a,P a→lR E b (Sh a) (Fl Q Sh P μ a)):aI E b S Q:=by
 refine aI.of (fun k S=> ∃a,k=μ a∧P a∧S=Sh a) ?_ hs ⟨a0,rfl,h0,rfl⟩
 rintro k S ⟨a,rfl,hp,rfl⟩
 refine fW (step a hp) fun e S' h=> ?_
 cases e with
 | normal=>
   obtain⟨a',h1,h2,h3⟩:=h
   exact⟨_,h1,_,h3,a',rfl,h2,rfl⟩
 | exit id=>exact h
 | ret=>exact h
theorem aI.Lq {b:aW} {Q:aX→SS→Prop} {S:SS} (h:aI E b S fun e S'=> ∃S0,S0.Sub S'∧Q e S0):aI E b S Q:=by
 refine⟨fun σ ho=>ej (h.h σ ho) ?_⟩
 rintro e σ' ⟨S',h1,S0,h2,h3⟩
 exact⟨S0,h2.on h1,h3⟩
def NR (K:SS→Prop):aX→SS→Prop
 | .normal,S=>K S
 | _,_=>False
def yU (S:SS):List Nat→List V→SS
 | p::ps,x::xs=>yU (S.put (some p) x) ps xs
 | _,_=>S
theorem yV: ∀ {ps:List Nat} {x:List V} {S:SS} {T:Nat→V} {O:Nat→Obj},S.On ⟨T,O⟩→(yU S ps x).On ⟨ml T ps x,O⟩
 | [],x,S,T,O,h=>by simpa [yU,ml] using h
 | p::ps,[],S,T,O,h=>by simpa [yU,ml] using h
 | p::ps,x::xs,S,T,O,h=>yV (ps:=ps) (x:=xs) (h.put (some p) x)
inductive Zl {α:Type} (Oh:α→List (Nat×Obj)) (P:α→Prop) (O:List (Nat×Obj)):Prop
 | mk (a:α) (h1:P a) (h2:xx (Oh a) O)
def Zm {α:Type} (Q:aX→SS→Prop) (T:List (Nat×V)) (Oh:α→List (Nat×Obj)) (P:α→Prop):aX→SS→Prop
 | .normal,S=>Zl Oh P S.O
 | .exit id,S=>Q (.exit id) ⟨T,S.O⟩
 | .ret,S=>Q .ret ⟨T,S.O⟩
theorem A8.by {α:Type} {fx:aQ} {ps:List Nat} {ac b:aW} {S:SS} {Q:aX→SS→Prop} {g:Nat} {caps:List V} (xs:List (List V)) (hf:match fx with| .tmp t=>lk S.T t=some (.fn g caps) | .const v=>v= .fn g caps) (hi:E.iter g caps=some xs) (hl: ∀x ∈ xs,x.length=ps.length)
  (Oh:α→List (Nat×Obj)) (P:Nat→α→Prop) (a0:α) (h0:xx (Oh a0) S.O) (hp:P 0 a0)
  (step: ∀ (k:Nat) x a,xs[k]? =some x→P k a→lR E ac (yU ⟨S.T,Oh a⟩ ps x) (NR fun S1=>lR E b S1 (Zm Q S.T Oh (P (k+1)))))
  (fin: ∀a,P xs.length a→Q .normal ⟨S.T,Oh a⟩):A8 E fx ps ac b S Q:=by
 refine⟨fun σ ho=> ?_⟩
 have NS: ∀ {l:List (Nat×Obj)} {σ:St} {m:List (Nat×Obj)},xx l m→(∀r o,lk m r=some o→σ.O r=o)→ ∀r o,lk l r=some o→σ.O r=o:=fun {l σ m} hs hm=>by
  have h2: (⟨[],m⟩:SS).On σ:=⟨fun t v h=>by simp[lk] at h,hm⟩
  exact(SS.Sub.on (S:=⟨[],l⟩) (S':=⟨[],m⟩) ⟨trivial,hs⟩ h2).2
 have run: ∀ (rest:List (List V)) (k:Nat) (a:α) (O:Nat→Obj),xs.drop k=rest→P k a→(∀r o,lk (Oh a) r=some o→O r=o)→k≤xs.length→ ∃n e σ',pU (exec E n) ps ac b σ.T rest O=some (e,σ')∧ ∃S',S'.On σ'∧Q e S':=by
  intro rest
  induction rest with
  | nil=>
    intro k a O hd Nm hO Nn
    have hk:xs.length≤k:=by
      have:=congrArg List.length hd
      simp at this;omega
    have:k=xs.length:=by omega
    subst this
    exact⟨0,.normal,⟨σ.T,O⟩,rfl,⟨S.T,Oh a⟩,⟨ho.1,hO⟩,fin a Nm⟩
  | cons x rest ih=>
    intro k a O hd Nm hO Nn
    have hk:k<xs.length:=by
      rcases Nat.lt_or_ge k xs.length with h| h
      · exact h
      · rw[List.drop_of_length_le h] at hd;simp at hd
    rw[List.drop_eq_getElem_cons hk] at hd
    injection hd with hx hd
    have hgx:xs[k]? =some x:=by rw[List.getElem?_eq_getElem hk,hx]
    obtain⟨n1,e1,σ1,h1,S1,h2,h3⟩:=cq (step k x a hgx Nm) (yV (x:=x) (ps:=ps) (S:=⟨S.T,Oh a⟩) (T:=σ.T) (O:=O) ⟨ho.1,hO⟩)
    cases e1 with
    | exit id=>exact h3.elim
    | ret=>exact h3.elim
    | normal=>
      obtain⟨n2,e2,σ2,k1,S2,k2,k3⟩:=cq h3 h2
      cases e2 with
      | normal=>
        obtain⟨a',q1,q2⟩:=k3
        obtain⟨n3,e,σ',l1,l2⟩:=ih (k+1) a' σ2.O hd q1 (NS (σ:=σ2) q2 k2.2) (by omega)
        refine⟨max n1 (max n2 n3),e,σ',?_,l2⟩
        have m1:=cp (E:=E) (Nat.le_max_left n1 (max n2 n3)) _ _ _ h1
        have m2:=cp (E:=E) (Nat.le_trans (Nat.le_max_left n2 n3) (Nat.le_max_right n1 _)) _ _ _ k1
        have m3:=qN (fun c σ x h=>cp (E:=E) (Nat.le_trans (Nat.le_max_right n2 n3) (Nat.le_max_right n1 _)) c σ x h) l1
        simp only[pU,m1,m2,m3]
      | exit id=>
        refine⟨max n1 n2,.exit id,⟨σ.T,σ2.O⟩,?_,⟨S.T,S2.O⟩,⟨ho.1,k2.2⟩,k3⟩
        have m1:=cp (E:=E) (Nat.le_max_left n1 n2) _ _ _ h1
        have m2:=cp (E:=E) (Nat.le_max_right n1 n2) _ _ _ k1
        simp only[pU,m1,m2]
      | ret=>
        refine⟨max n1 n2,.ret,⟨σ.T,σ2.O⟩,?_,⟨S.T,S2.O⟩,⟨ho.1,k2.2⟩,k3⟩
        have m1:=cp (E:=E) (Nat.le_max_left n1 n2) _ _ _ h1
        have m2:=cp (E:=E) (Nat.le_max_right n1 n2) _ _ _ k1
        simp only[pU,m1,m2]
 obtain⟨n,e,σ',h1,h2⟩:=run xs 0 a0 σ.O (by simp) hp (NS (σ:=σ) h0 ho.2) (Nat.zero_le _)
 refine⟨n+1,e,σ',?_,h2⟩
 have Lr:a8 σ fx= .fn g caps:=by
  cases fx with
  | tmp t=>exact ho.1 t _ hf
  | const v=>exact hf
 have mm:xs.all (fun x=>Nat.beq x.length ps.length)=true:=by
  rw[List.all_eq_true];intro x hx;rw[Nat.beq_eq];exact hl x hx
 simp only[exec,aG,Lr,hi,mm,if_true,h1]
def Fm (K:SS→Prop):aX→SS→Prop
 | .normal,S=>K S
 | _,_=>False
def NT (id:Nat) (K:SS→Prop):aX→SS→Prop
 | .exit jB,S=>eA (jB=id) (K S)
 | _,_=>False
theorem A9 {α:Type}: ∀ {l:List (Nat×α)} {n:Nat} {v:α},lk l n=some v→(n,v) ∈ l
 | [],n,v,h=>by simp[lk] at h
 | (k,u)::l,n,v,h=>by
   rw[kU] at h
   split at h
   · rename_i e
     simp only at e
     subst e
     injection h with h;subst h;simp
   · exact List.mem_cons_of_mem _ (A9 h)
theorem Fk.by {it nx ne id:Nat} {kT kO:List Nat} {h0 b l:aW} {Q:aX→SS→Prop} {S:SS} {r g:Nat} {arr:Bool} {es:List V} (Sh:List V→SS) (Sf:SS)
   (hT:lk S.T it=some (.it r g)) (hO:lk S.O r=some ⟨g,0,arr,false,some [.mlit es]⟩) (Zn: (Sh []).Sub ⟨S.T,(r,⟨g,0,false,false,none⟩)::S.O⟩)
   (Ir: ∀d,lk (Sh d).T it=some (.it r g)) (hg: ∀d,∃o,lk (Sh d).O r=some o∧o.gen=g) (bl: ∀e ∈ es,∃k v,e= .tuple [k,v])
   (step: ∀d k v rest,(d++ .tuple [k,v]::rest).Perm es→lR E h0 (SS.put (Sh d) (some nx) (.tuple [.bool true,k,v])) (Fm fun S1=> (lk S1.T it=some (.it r g)∧ ∃o,lk S1.O r=some o∧o.gen=g)∧lR E b (SS.put S1 (some ne) (.tuple [k,v])) (Fm fun S'=> (Sh (d++[.tuple [k,v]])).Sub S')))
   (last: ∀d,d.Perm es→lR E h0 (SS.put (Sh d) (some nx) (.tuple [.bool false])) (NT id fun S'=>lR E l S' (Fm fun Lp=>Sf.Sub Lp)))
   (J3:kT.all (fun t=> (lk Sf.T t).isSome)=true) (J4:kO.all (fun t=> (lk Sf.O t).isSome)=true) (fT:Sf.T.all (fun p=>kT.contains p.1)=true) (fO:Sf.O.all (fun p=>kO.contains p.1)=true)
   (hQ:Q .normal Sf):Fk E it nx ne id kT kO h0 b l S Q:=by
 refine⟨fun σ ho=> ?_⟩
 have Zo: (Sh []).On ⟨σ.T,dg σ.O r ⟨g,0,false,false,none⟩⟩:=by
   refine Zn.on ⟨fun t v hv=>ho.1 t v hv,fun x o hx=> ?_⟩
   rw[kU] at hx
   show dg σ.O r _ x=o
   unfold dg
   by_cases e:r=x
   · simp only[e,if_true,Option.some.injEq] at hx ⊢;exact hx
   · rw[if_neg e] at hx;rw[if_neg (Ne.symm e)];exact ho.2 x o hx
 have J5: ∀d (τ:St),(Sh d).On τ→sN it r g τ=true:=fun d τ hτ=>by
   obtain⟨o,h1,h2⟩:=hg d
   unfold sN
   rw[hτ.1 _ _ (Ir d),hτ.2 _ _ h1]
   simp[h2]
 have run: ∀ (rest d:List V) (τ:St),(d++rest).Perm es→(Sh d).On τ→ ∃n σp,runK (exec E n) it r g nx ne id h0 b l rest τ=some σp∧Sf.On σp:=by
   intro rest
   induction rest with
   | nil=>
     intro d τ hp hτ
     obtain⟨n1,e,τ1,h1,S1,h2,h3⟩:=cq (last d (by simpa using hp)) (hτ.put (some nx) (.tuple [.bool false]))
     cases e with
     | normal=>exact h3.elim
     | ret=>exact h3.elim
     | exit jB=>
       obtain⟨rfl,h3⟩:=h3
       obtain⟨n2,e2,τ2,k1,S2,k2,k3⟩:=cq h3 h2
       cases e2 with
       | exit jB=>exact k3.elim
       | ret=>exact k3.elim
       | normal=>
         refine⟨max n1 n2,τ2,?_,SS.Sub.on k3 k2⟩
         have m1:=cp (E:=E) (Nat.le_max_left n1 n2) _ _ _ h1
         have m2:=cp (E:=E) (Nat.le_max_right n1 n2) _ _ _ k1
         simp only[runK,J5 d τ hτ,if_true,m1,m2]
   | cons x rest ih=>
     intro d τ hp hτ
     obtain⟨k,v,rfl⟩:=bl x (hp.mem_iff.1 (by simp))
     obtain⟨n1,e,τ1,h1,S1,h2,h3⟩:=cq (step d k v rest hp) (hτ.put (some nx) (.tuple [.bool true,k,v]))
     cases e with
     | exit jB=>exact h3.elim
     | ret=>exact h3.elim
     | normal=>
       obtain⟨⟨t1,o1,t2,t3⟩,h3⟩:=h3
       have Zp:sN it r g τ1=true:=by
         unfold sN
         rw[h2.1 _ _ t1,h2.2 _ _ t2]
         simp[t3]
       obtain⟨n3,e3,τ3,l1,S3,l2,l3⟩:=cq h3 (h2.put (some ne) (.tuple [k,v]))
       cases e3 with
       | exit jB=>exact l3.elim
       | ret=>exact l3.elim
       | normal=>
         obtain⟨n2,σp,k1,k2⟩:=ih (d++[.tuple [k,v]]) τ3 (by simpa using hp) (SS.Sub.on l3 l2)
         refine⟨max n1 (max n3 n2),σp,?_,k2⟩
         have m1:=cp (E:=E) (Nat.le_max_left n1 (max n3 n2)) _ _ _ h1
         have m3:=cp (E:=E) (Nat.le_trans (Nat.le_max_left n3 n2) (Nat.le_max_right n1 _)) _ _ _ l1
         have m2:=nb (fun c σ x h=>cp (E:=E) (Nat.le_trans (Nat.le_max_right n3 n2) (Nat.le_max_right n1 _)) c σ x h) k1
         simp only[runK,J5 d τ hτ,Zp,if_true,m1,m3,m2]
 obtain⟨n,ys,h1,h2,h3⟩:=tY (f:=fun n p=>runK (exec E n) it r g nx ne id h0 b l p ⟨σ.T,dg σ.O r ⟨g,0,false,false,none⟩⟩) (P:=fun σp=>Sf.On σp)
   (fun n m p y Is h=>nb (fun c σ x h=>cp (E:=E) Is c σ x h) h) (l:=perms es) fun p hp=>run p [] _ (by simpa using rS hp) Zo
 have cO:perms es≠[]:=fun e=>by have:=mn (List.Perm.refl es);rw[e] at this;simp at this
 match ys,h2,h3,h1 with
 | [],h2,_,_=>exact absurd (List.length_eq_zero_iff.1 h2.symm) cO
 | σ1::σs,_,h3,h1=>
   have hT':σ.T it= .it r g:=ho.1 _ _ hT
   have hO':=ho.2 _ _ hO
   have YJ:σs.all (pV kT kO σ1)=true:=by
     rw[List.all_eq_true]
     intro τ hτ
     have o1:=h3 σ1 (by simp)
     have o2:=h3 τ (by simp[hτ])
     simp only[pV,Bool.and_eq_true,List.all_eq_true] at J3 J4 ⊢
     refine⟨fun t ht=> ?_,fun x hx=> ?_⟩
     · obtain⟨v,hv⟩:=Option.isSome_iff_exists.1 (J3 t ht)
       rw[o1.1 t v hv,o2.1 t v hv];exact V.jf v
     · obtain⟨v,hv⟩:=Option.isSome_iff_exists.1 (J4 x hx)
       rw[o1.2 x v hv,o2.2 x v hv];exact Obj.jf v
   refine⟨n+1,.normal,forget kT kO σ1 σs,?_,Sf,?_,hQ⟩
   · simp only[exec,aG,hT',hO',and_self,if_true,h1,YJ]
   · have o1:=h3 σ1 (by simp)
     refine⟨fun t v hv=> ?_,fun x o hx=> ?_⟩
     · have:=List.all_eq_true.1 fT _ (A9 hv)
       simp only[forget,this,if_true]
       exact o1.1 t v hv
     · have:=List.all_eq_true.1 fO _ (A9 hx)
       simp only[forget,this,if_true]
       exact o1.2 x o hx
theorem J6 (i:Nat) (h:i< 4611686018427387904):V.int .i64 (IntKind.i64.wrap ((i:Int)+1))=V.int .i64 ((i+1:Nat):Int):=by
 rw[wrap64 (by omega) (by omega)];rfl
def Dp ( S:SS):List pB→(List V→Prop)→Prop
 | [],k=>k []
 | .tmp t::rs,k=> (match lk S.T t with
   | some v=>Dp S rs fun vs=>k (v::vs)
   | none=>False)
 | .cell t agg sz::rs,k=> (match lk S.T t with
   | some (.ptr r g idx off)=> (match lk S.O r with
     | some ⟨bX,_,_,_,fQ⟩=> (match fQ with
       | some [e]=> (match idx with
         | 0=>eA (bX=g) (match tN agg off sz e with
           | some v=>Dp S rs fun vs=>k (v::vs)
           | none=>False)
         | _+1=>False)
       | _=>False)
     | none=>False)
   | _=>False)
theorem oK {  S:SS} {σ:St} (ho:S.On σ): ∀ {rs:List pB} {k:List V→Prop},Dp S rs k→ ∃vs,cG σ rs=some vs∧k vs
 | [],k,h=> ⟨[],rfl,h⟩
 | .tmp t::rs,k,h=>by
   simp only[Dp] at h
   split at h
   · rename_i v hv
     obtain⟨vs,h1,h2⟩:=oK ho h
     exact⟨v::vs,by simp[cG,ek,h1,ho.1 t v hv],h2⟩
   · exact h.elim
 | .cell t agg sz::rs,k,h=>by
   simp only[Dp] at h
   split at h
   · rename_i r g idx off hv
     split at h
     · rename_i bX eX cL gk fQ hr
       split at h
       · rename_i e
         split at h
         · obtain⟨hg,h⟩:=h
           split at h
           · rename_i v hp
             obtain⟨vs,h1,h2⟩:=oK ho h
             refine⟨v::vs,?_,h2⟩
             simp[cG,ek,h1,ho.1 t _ hv,ho.2 r _ hr,hg,jc hp]
           · exact h.elim
         · exact h.elim
       · exact h.elim
     · exact h.elim
   · exact h.elim
def rT (S:SS):Nat→List V→(List (Nat×List V)→Prop)→Prop
 | _,[],k=>k []
 | i,.msl sz _ _ _::as,k| i,.mptr sz _ _ _::as,k=> (match lk S.O i with
   | some ⟨bX,eX,_,gk,fQ⟩=> (match fQ with
     | some es=>eA (gk=false∧eX=sz∧V.aq es=true) (rT S (i+1) as fun outs=>k ((bX,es)::outs))
     | none=>False)
   | none=>False)
 | i,_::as,k=>rT S (i+1) as k
theorem jI {S:SS} {σ:St} (ho:S.On σ): ∀ {as:List V} {i:Nat} {k:List (Nat×List V)→Prop},rT S i as k→ ∃outs,bO σ.O i as=some outs∧k outs
 | [],i,k,h=> ⟨[],by simp[bO],by simpa [rT] using h⟩
 | a::as,i,k,h=>by
   cases a
   case msl sz es' off len=>
    simp only[rT] at h
    split at h
    · rename_i bX eX cL gk fQ hr
      split at h
      ·  rename_i es
         obtain⟨hc,h⟩:=h
         obtain⟨outs,h1,h2⟩:=jI ho h
         refine⟨_,?_,h2⟩
         simp[bO,ho.2 i _ hr,h1,hc]
      · exact h.elim
    · exact h.elim
   case mptr sz es' off len=>
    simp only[rT] at h
    split at h
    · rename_i bX eX cL gk fQ hr
      split at h
      ·  rename_i es
         obtain⟨hc,h⟩:=h
         obtain⟨outs,h1,h2⟩:=jI ho h
         refine⟨_,?_,h2⟩
         simp[bO,ho.2 i _ hr,h1,hc]
      · exact h.elim
    · exact h.elim
   all_goals
    simp only[rT] at h
    obtain⟨outs,h1,h2⟩:=jI ho h
    exact⟨outs,by simp[bO,h1],h2⟩
def pW ( n:Nat) (S:SS) (c:V) (k:V→List Nat→Prop):Prop:=
 match c with
 | .sl r g off len=> (match lk S.O r with
   | some ⟨bX,eX,cL,gk,fQ⟩=> (match fQ with
     | some es=>eA (bX=g∧cL=true) (aN (fun ys=>aJ es off len=ys) fun ys=>eA (off+len≤es.length∧V.aq ys=true)
        (bif Nat.blt r n then k (.sl r g off len) [r] else bif gk then k (.lit eX ys) [] else k (.own eX ys) [r]))
     | none=>False)
   | none=>False)
 | c=>eA (V.aB c=true) (k c [])
theorem mq {n:Nat} {S:SS} {σ:St} (ho:S.On σ) {c:V} {k:V→List Nat→Prop} (h:pW n S c k): ∃v rs,bH n σ c=some (v,rs)∧k v rs:=by
 unfold pW at h
 split at h
 · rename_i r g off len
   split at h
   · rename_i bX eX cL gk fQ hr
     split at h
     · rename_i es
       obtain⟨⟨h1,h2⟩,ys,rfl,⟨h3,h4⟩,h⟩:=h
       have e1:=ho.2 r _ hr
       simp only[bH,e1,h1,h2,h3,h4,and_self,if_true]
       cases hb:Nat.blt r n with
       | true=>
         have:r<n:=by simpa [Nat.blt_eq] using hb
         simp only[hb,cond_true] at h
         rw[if_pos this];exact⟨_,_,rfl,h⟩
       | false=>
         have: ¬r<n:=by intro hc;rw[←Nat.blt_eq,hb] at hc;simp at hc
         simp only[hb,cond_false] at h
         rw[if_neg this]
         cases hz:gk with
         | true=>simp only[hz,cond_true] at h;exact⟨_,_,by simp[e1,hz],h⟩
         | false=>simp only[hz,cond_false] at h;exact⟨_,_,by simp[e1,hz],h⟩
     · exact h.elim
   · exact h.elim
 · rename_i hn
   refine⟨c,[],?_,h.rest⟩
   have h:=h.side
   unfold bH
   cases c
   case sl=>exact absurd rfl (hn _ _ _ _)
   all_goals simp_all
def nn (n:Nat) (S:SS):List V→(List V→List Nat→Prop)→Prop
 | [],k=>k [] []
 | c::cs,k=>pW n S c fun c' r=>nn n S cs fun ct rs=>k (c'::ct) (r++rs)
theorem im {n:Nat} {S:SS} {σ:St} (ho:S.On σ): ∀ {cs:List V} {k:List V→List Nat→Prop},nn n S cs k→ ∃v rs,br n σ cs=some (v,rs)∧k v rs
 | [],_,h=> ⟨[],[],rfl,h⟩
 | c::cs,k,h=>by
   obtain⟨v,r,h1,h2⟩:=mq ho h
   obtain⟨vs,rs,h3,h4⟩:=im ho h2
   exact⟨_,_,by simp[br,h1,h3],h4⟩
def Fo (n:Nat) (S:SS) (v:V) (k:V→List Nat→Prop):Prop:=
 bif V.aB v then k v [] else
 match v with
 | .agg cs=>nn n S cs fun ct rs=>k (.agg ct) rs
 | .fn f cs=>nn n S cs fun ct rs=>eA (V.aq ct=true) (k (.fn f ct) rs)
 | v=>pW n S v k
theorem yW {n:Nat} {S:SS} {σ:St} (ho:S.On σ) {v:V} {k:V→List Nat→Prop} (h:Fo n S v k): ∃v' rs,cu n σ v=some (v',rs)∧k v' rs:=by
 unfold Fo at h
 unfold cu
 cases hp:V.aB v with
 | true=>simp only[hp,cond_true] at h;exact⟨v,[],by simp,h⟩
 | false=>
   simp only[hp,cond_false] at h
   simp only[Bool.false_eq_true,if_false]
   split at h
   · obtain⟨ct,rs,h1,h2⟩:=im ho h
     exact⟨_,_,by simp[h1],h2⟩
   · obtain⟨ct,rs,h1,h2,h3⟩:=im ho h
     exact⟨_,_,by simp[h1,h2],h3⟩
   · obtain⟨v',rs,h1,h2⟩:=mq ho h
     exact⟨v',rs,by cases v<;>simp_all,h2⟩
def Ba (n:Nat) (S:SS):List V→(List V→List Nat→Prop)→Prop
 | [],k=>k [] []
 | c::cs,k=>Fo n S c fun c' r=>Ba n S cs fun ct rs=>k (c'::ct) (r++rs)
theorem pX {n:Nat} {S:SS} {σ:St} (ho:S.On σ): ∀ {cs:List V} {k:List V→List Nat→Prop},Ba n S cs k→ ∃v rs,b9 n σ cs=some (v,rs)∧k v rs
 | [],_,h=> ⟨[],[],rfl,h⟩
 | c::cs,k,h=>by
   obtain⟨v,r,h1,h2⟩:=yW ho h
   obtain⟨vs,rs,h3,h4⟩:=pX ho h2
   exact⟨_,_,by simp[b9,h1,h3],h4⟩
def tZ (rs:List pB) (args:List V) (S:SS) (R:dk→Prop):Prop:=
 Dp S rs fun vs=>rT S 0 args fun outs=>Ba args.length S vs fun vs' refs=>eA (distinct refs=true) (match vs' with
  | [v]=>R ⟨v,outs⟩
  | vs'=>R ⟨.tuple vs',outs⟩)
def xy (rs:List pB) (args:List V) (R:dk→Prop):aX→SS→Prop
 | .exit _,_=>False
 | .normal,S=>tZ rs args S R
 | .ret,S=>tZ rs args S R
theorem pY {rs:List pB} {args:List V} {S:SS} {R:dk→Prop} {σ:St} (ho:S.On σ) (h:tZ rs args S R): ∃res,leave ⟨0,0,[],rs,.skip,none⟩ args σ=some res∧R res:=by
 obtain⟨vs,h1,h⟩:=oK ho h
 obtain⟨outs,h2,h⟩:=jI ho h
 obtain⟨vs',refs,h3,h4,h⟩:=pX ho h
 simp only[leave,h1,h2,h3]
 split at h
 · rename_i v
   exact⟨_,by simp[h4],h⟩
 · rename_i hn
   refine⟨⟨.tuple vs',outs⟩,?_,h⟩
   split
   · rename_i v rs' heq
     injection heq with e1;injection e1 with e1 e2
     exact absurd e1 (by intro hh;exact hn v hh)
   · rename_i vs2 rs2 heq
     injection heq with e1;injection e1 with e1 e2
     subst e1 e2
     simp[h4]
   · rename_i heq;simp at heq
def jW:Nat→List V→List (Nat×V)
 | _,[]=> []
 | i,.msl _ _ off len::as=> (i,.sl i 0 off len)::jW (i+1) as
 | i,.mptr _ _ idx off::as=> (i,.ptr i 0 idx off)::jW (i+1) as
 | i,v::as=> (i,v)::jW (i+1) as
def jX:Nat→List V→List (Nat×Obj)
 | _,[]=> []
 | i,.msl sz es _ _::as=> (i,{gen:=0,sz,arr:=true,fz:=false,es:=some es})::jX (i+1) as
 | i,.mptr sz es _ _::as=> (i,{gen:=0,sz,arr:=false,fz:=false,es:=some es})::jX (i+1) as
 | i,_::as=>jX (i+1) as
def qZ (args:List V):SS:=⟨jW 0 args,jX 0 args⟩
theorem wg: ∀ (as pre:List V) (t:Nat) (v:V),lk (jW pre.length as) t=some v→(enter (pre++as)).T t=v
 | [],_,_,_,h=>by simp[jW,lk] at h
 | a::as,pre,t,v,h=>by
   have ih:=wg as (pre++[a]) t v
   simp only[List.length_append,List.length_cons,List.length_nil,Nat.zero_add,List.append_assoc,List.singleton_append] at ih
   have key: ∀x,lk ((pre.length,x)::jW (pre.length+1) as) t=some v→(enter (pre++a::as)).T pre.length=x→(enter (pre++a::as)).T t=v:=by
    intro x hx hv
    rw[kU] at hx
    by_cases e:pre.length=t
    · simp only[e,if_true,Option.some.injEq] at hx;rw[←hx,←hv,e]
    · simp only[e,if_false] at hx;exact ih hx
   have hg: (pre++a::as)[pre.length]? =some a:=by simp
   cases a
   case msl=>exact key _ (by simpa [jW] using h) (by simp[enter,hg])
   case mptr=>exact key _ (by simpa [jW] using h) (by simp[enter,hg])
   all_goals exact key _ (by simpa [jW] using h) (by simp[enter,hg])
theorem wi: ∀ (as pre:List V) (t:Nat) (v:Obj),lk (jX pre.length as) t=some v→(enter (pre++as)).O t=v
 | [],_,_,_,h=>by simp[jX,lk] at h
 | a::as,pre,t,v,h=>by
   have ih:=wi as (pre++[a]) t v
   simp only[List.length_append,List.length_cons,List.length_nil,Nat.zero_add,List.append_assoc,List.singleton_append] at ih
   have key: ∀x,lk ((pre.length,x)::jX (pre.length+1) as) t=some v→(enter (pre++a::as)).O pre.length=x→(enter (pre++a::as)).O t=v:=by
    intro x hx hv
    rw[kU] at hx
    by_cases e:pre.length=t
    · simp only[e,if_true,Option.some.injEq] at hx;rw[←hx,←hv,e]
    · simp only[e,if_false] at hx;exact ih hx
   have hg: (pre++a::as)[pre.length]? =some a:=by simp
   cases a
   case msl=>exact key _ (by simpa [jX] using h) (by simp[enter,hg])
   case mptr=>exact key _ (by simpa [jX] using h) (by simp[enter,hg])
   all_goals exact ih (by simpa [jX] using h)
theorem wj (args:List V): (qZ args).On (enter args):=
 ⟨fun t v h=>wg args [] t v h,fun r o h=>wi args [] r o h⟩
theorem Ev.bz {f:Nat} {af:aA} {args:List V} {R:dk→Prop} (hf:E.fn f=some af) (hx:E.ext f args=none) (hl:args.length=af.nparams)
  (h:lR E af.body (qZ args) (xy af.results args R)) (ht:af.tag=none:=by rfl) (hh:E.hyb f=none:=by rfl): ∃res,Ev E f args res∧R res:=by
 obtain⟨n,e,σ',h1,S',h2,h3⟩:=cq h (wj args)
 have key: ∀ {e},exec E n af.body (enter args)=some (e,σ')→(e= .normal∨e= .ret)→tZ af.results args S' R→ ∃res,Ev E f args res∧R res:=by
  intro e h1 he NU
  obtain⟨res,h4,h5⟩:=pY h2 NU
  refine⟨res,⟨n,?_⟩,h5⟩
  unfold call dw
  rw[hh];simp only[iY]
  rw[hx];simp only[hf,hl,if_true,ht,h1]
  rcases he with rfl| rfl<;>exact h4
 cases e with
 | normal=>exact key h1 (.inl rfl) h3
 | ret=>exact key h1 (.inr rfl) h3
 | exit id=>exact h3.elim
theorem Ev.aT {f:Nat} {af:aA} {args:List V} {res:dk} (hf:E.fn f=some af) (hx:E.ext f args=none) (hl:args.length=af.nparams)
  (h:lR E af.body (qZ args) (xy af.results args (· =res))) (ht:af.tag=none:=by rfl) (hh:E.hyb f=none:=by rfl):Ev E f args res:=by
 obtain⟨r,h1,rfl⟩:=Ev.bz hf hx hl h ht hh
 exact h1
end
end Go.AM
namespace Go.AM
inductive vN {α:Type} (Sh:α→SS) (P:α→Prop) (S:SS):Prop
 | mk (x:α) (h2:P x) (h3: (Sh x).Sub S)
def Zq {α:Type} (Q:aX→SS→Prop) (Sh:α→SS) (P:α→Prop):aX→SS→Prop
 | .normal,S=>vN Sh P S
 | .exit id,S=>Q (.exit id) S
 | .ret,S=>Q .ret S
def Dr:Nat→aW→aW
 | 0,_=> .skip
 | n+1,.seq a b=> .seq a (Dr n b)
 | _+1,c=>c
def ua:Nat→aW→aW
 | 0,c=>c
 | n+1,.seq _ b=>ua n b
 | _+1,_=> .skip
section
variable {E:Env}
def WS (E:Env) (c:aW) (S:SS) (Q:aX→SS→Prop):Prop:= ∀σ,S.On σ→ka E c σ fun e σ'=> ∃S',S'.On σ'∧Q e S'
theorem WS.of {c:aW} {S:SS} {Q:aX→SS→Prop} (h:lR E c S Q):WS E c S Q:=fun _ ho=>cq h ho
theorem wk: ∀ {n:Nat} {c:aW} {σ:St} {Q:aX→St→Prop},ka E (Dr n c) σ (andThen Q fun σ'=>ka E (ua n c) σ' Q)→ka E c σ Q
 | 0,c,σ,Q,h=>by
   simp only[Dr] at h
   rw[kc] at h
   exact h
 | n+1,c,σ,Q,h=>by
   have other:Dr (n+1) c=c→ua (n+1) c= .skip→ka E c σ Q:=fun e1 e2=>by
    rw[e1,e2] at h
    refine ej h ?_
    intro e σ' hq
    cases e with
    | normal=>simp only[andThen] at hq;rw[kc] at hq;exact hq
    | exit id=>exact hq
    | ret=>exact hq
   cases c
   case seq a b=>
    simp only[Dr,ua] at h
    rw[nd] at h ⊢
    refine ej h ?_
    intro e σ' hq
    cases e with
    | normal=>exact wk (n:=n) hq
    | exit id=>exact hq
    | ret=>exact hq
   all_goals exact other rfl rfl
theorem WS.cut {α:Type} (n:Nat) (Sh:α→SS) (P:α→Prop) {Q:aX→SS→Prop} {c:aW} {S:SS} (h1:lR E (Dr n c) S (Zq Q Sh P)) (h2: ∀x,P x→WS E (ua n c) (Sh x) Q):WS E c S Q:=fun σ ho=>by
 refine wk (n:=n) (ej (cq h1 ho) ?_)
 rintro e σ' ⟨S',h3,h4⟩
 cases e with
 | normal=>
   obtain⟨x,h5,h6⟩:=h4
   exact h2 x h5 σ' (h6.on h3)
 | exit id=>exact⟨S',h3,h4⟩
 | ret=>exact⟨S',h3,h4⟩
theorem Ev.J7 {f:Nat} {af:aA} {args:List V} {R:dk→Prop} (hf:E.fn f=some af) (hx:E.ext f args=none) (hl:args.length=af.nparams)
  (h:WS E af.body (qZ args) (xy af.results args R)) (ht:af.tag=none:=by rfl) (hh:E.hyb f=none:=by rfl): ∃res,Ev E f args res∧R res:=by
 obtain⟨n,e,σ',h1,S',h2,h3⟩:=h (enter args) (wj args)
 have key: ∀ {e},exec E n af.body (enter args)=some (e,σ')→(e= .normal∨e= .ret)→tZ af.results args S' R→ ∃res,Ev E f args res∧R res:=by
  intro e h1 he NU
  obtain⟨res,h4,h5⟩:=pY h2 NU
  refine⟨res,⟨n,?_⟩,h5⟩
  unfold call dw
  rw[hh];simp only[iY]
  rw[hx];simp only[hf,hl,if_true,ht,h1]
  rcases he with rfl| rfl<;>exact h4
 cases e with
 | normal=>exact key h1 (.inl rfl) h3
 | ret=>exact key h1 (.inr rfl) h3
 | exit id=>exact h3.elim
theorem Ev.Ls {f:Nat} {af:aA} {args:List V} {res:dk} (hf:E.fn f=some af) (hx:E.ext f args=none) (hl:args.length=af.nparams)
  (h:WS E af.body (qZ args) (xy af.results args (· =res))) (ht:af.tag=none:=by rfl) (hh:E.hyb f=none:=by rfl):Ev E f args res:=by
 obtain⟨r,h1,rfl⟩:=Ev.J7 hf hx hl h ht hh
 exact h1
theorem aI.ws {α:Type} {b:aW} {Q:aX→SS→Prop} {S:SS} (Sh:α→SS) (P:α→Prop) (μ:α→Nat) (a0:α) (hs: (Sh a0).Sub S) (h0:P a0)
   (step: ∀a,P a→WS E b (Sh a) (Fl Q Sh P μ a)):aI E b S Q:=by
 refine⟨fun σ ho=> ?_⟩
 refine rO (fun k σ=> ∃a,k=μ a∧P a∧(Sh a).On σ) ?_ (μ a0) σ ⟨a0,rfl,h0,hs.on ho⟩
 rintro k σ ⟨a,rfl,hp,hS⟩
 refine ej (step a hp σ hS) ?_
 rintro e σ' ⟨S',h1,h2⟩
 cases e with
 | normal=>
   obtain⟨a',h3,h4,h5⟩:=h2
   exact⟨_,h3,a',rfl,h4,h5.on h1⟩
 | exit id=>exact⟨S',h1,h2⟩
 | ret=>exact⟨S',h1,h2⟩
end
end Go.AM
