/- Texts of the proof. -/
import Derived.Test.YtdifmldbllaeiaaGreatGaa
import Derived.Test.YtdifmldbllaeiaaGreatOpsC
set_option maxRecDepth 20000
set_option maxHeartbeats 4000000
set_option linter.unusedSimpArgs false
set_option linter.unusedVariables false
namespace Go.AM
open Classical
theorem CE {x:V} (h:bK x=true): ∃a b c,x= .agg [.int .i64 a,.int .i64 b,.int .i64 c]:=by
 unfold bK at h
 split at h
 ·exact⟨_,_,_,rfl⟩
 ·simp at h
theorem jW {x y:V} (hx:bK x=true) (hy:bK y=true):dn [1,1,1] x y=some (decide (x=y)):=by
 obtain⟨a,b,c,rfl⟩:=CE hx
 obtain⟨p,q,r,rfl⟩:=CE hy
 simp only[dn,cR,GO,if_true,agB,afY,V.agg.injEq,ahK,V.int.injEq,true_and,and_true]
 rw[ahH]
 simp
theorem Jo {e:V} (h:iL e=true): ∃k v,e= .tuple [k,v]∧bK k=true∧bK v=true:=by
 unfold iL at h
 split at h
 ·rename_i k v
  simp only[af2] at h
  exact⟨k,v,rfl,h.1,h.2⟩
 ·simp at h
noncomputable def xf (es:List V) (x:V):Option V:=(cG [1,1,1] x es).getD none
theorem lz {k v x:V} {es:List V} (hk:bK k=true) (hx:bK x=true):xf (.tuple [k,v]::es) x=if x=k then some v else xf es x:=by
 unfold xf
 simp only[cG,jW hx hk]
 by_cases e:x=k
 ·rw[if_pos e,decide_eq_true e];rfl
 ·rw[if_neg e,decide_eq_false e]
theorem Er {x:V} (hx:bK x=true): ∀ {es:List V},es.all iL=true→cG [1,1,1] x es=some (xf es x)
 | [],_=>rfl
 | e::es,h=>by
   simp only[agj,af2] at h
   obtain⟨k,v,rfl,hk,hv⟩:=Jo h.1
   rw[lz hk hx]
   simp only[cG,jW hx hk]
   by_cases e:x=k
   ·rw[if_pos e,decide_eq_true e]
   ·rw[if_neg e,decide_eq_false e]
    exact Er hx h.2
theorem pj {x y:V} (hx:bK x=true): ∀ {es:List V},es.all iL=true→xf es x=some y→bK y=true
 | [],_,h=>by simp[xf,cG] at h
 | e::es,hs,h=>by
   simp only[agj,af2] at hs
   obtain⟨k,v,rfl,hk,hv⟩:=Jo hs.1
   rw[lz hk hx] at h
   by_cases e:x=k
   ·rw[if_pos e] at h;injection h with h;subst h;exact hv
   ·rw[if_neg e] at h;exact pj hx hs.2 h
theorem CG {x r:V} (hx:bK x=true) (hr:bK r=true): ∀ {es:List V},es.all iL=true→ ∃es',dF [1,1,1] x r es=some es'∧es'.all iL=true∧ ∀z,bK z=true→xf es' z=if z=x then some r else xf es z
 | [],_=> ⟨_,rfl,by simp[iL,hx,hr],fun z hz=>by rw[lz hx hz]⟩
 | e::es,hs=>by
   simp only[agj,af2] at hs
   obtain⟨k,v,rfl,hk,hv⟩:=Jo hs.1
   simp only[dF,jW hx hk]
   by_cases e:x=k
   ·subst e
    rw[decide_eq_true rfl]
    refine⟨_,rfl,by simp only[agj,hs.2,agB];simp[iL,hx,hr],fun z hz=> ?_⟩
    rw[lz hx hz,lz hx hz]
    split<;>rfl
   ·rw[decide_eq_false e]
    obtain⟨es',h1,h2,h3⟩:=CG hx hr hs.2
    refine⟨.tuple [k,v]::es',by simp[h1],by simp only[agj,h2,agB];exact hs.1,fun z hz=> ?_⟩
    rw[lz hk hz,lz hk hz,h3 z hz]
    by_cases e1:z=k
    ·subst e1
     rw[if_pos rfl,if_pos rfl,if_neg (fun e'=>e e'.symm)]
    ·rw[if_neg e1,if_neg e1]
noncomputable def dV:Nat→List V→V→Option V
 | 0,_,_=>none
 | n+1,es,x=>match xf es x with
   | none=>some x
   | some y=>if y=x then some x else dV n es y
def Q1 (es:List V) (r:V):Prop:=xf es r=none∨xf es r=some r
theorem ie {n:Nat} {es:List V} {r:V} (h:Q1 es r):dV (n+1) es r=some r:=by
 rcases h with h| h
 ·simp[dV,h]
 ·simp[dV,h]
theorem fE {n:Nat} {es:List V} {x y:V} (h:xf es x=some y) (cF:y≠x):dV (n+1) es x=dV n es y:=by simp[dV,h,cF]
theorem yD (es:List V) (x:V):Q1 es x∨ ∃y,xf es x=some y∧y≠x:=by
 rcases e:xf es x with _| y
 ·exact .inl (.inl e)
 ·by_cases h:y=x
  ·subst h;exact .inl (.inr e)
  ·exact .inr ⟨y,rfl,h⟩
theorem kR {es:List V} (hs:es.all iL=true): ∀ {n:Nat} {x r:V},bK x=true→dV n es x=some r→Q1 es r∧bK r=true
 | 0,_,_,_,h=>by simp[dV] at h
 | n+1,x,r,hx,h=>by
   rcases yD es x with ht| ⟨y,h1,h2⟩
   ·rw[ie ht] at h;injection h with h;subst h;exact⟨ht,hx⟩
   ·rw[fE h1 h2] at h;exact kR hs (pj hx hs h1) h
theorem yE {es:List V}: ∀ {n:Nat} {x r:V},dV n es x=some r→dV (n+1) es x=some r
 | 0,_,_,h=>by simp[dV] at h
 | n+1,x,r,h=>by
   rcases yD es x with ht| ⟨y,h1,h2⟩
   ·rw[ie ht] at h ⊢;exact h
   ·rw[fE h1 h2] at h ⊢;exact yE h
theorem nq {es:List V} {n m:Nat} {x r:V} (RD:n≤m) (h:dV n es x=some r):dV m es x=some r:=by
 induction RD with
 | refl=>exact h
 | step _ ih=>exact yE ih
theorem Nw {es:List V} {n m:Nat} {x r q:V} (h:dV n es x=some r) (k:dV m es x=some q):r=q:=by
 have h1:=nq (agw n m) h
 rw[nq (ago n m) k] at h1
 injection h1 with h1;exact h1.symm
theorem yF {es Ar:List V} {x r:V} {k:Nat} (hx:bK x=true) (hs:es.all iL=true) (hp:dV k es x=some r) (hf: ∀z,bK z=true→xf Ar z=if z=x then some r else xf es z): ∀ {m:Nat} {z q:V},bK z=true→dV m es z=some q→dV m Ar z=some q
 | 0,_,_,_,h=>by simp[dV] at h
 | m+1,z,q,hz,h=>by
   obtain⟨aJ,hsr⟩:=kR hs hx hp
   by_cases e:z=x
   ·subst e
    obtain rfl:=Nw hp h
    have h2:xf Ar z=some r:=by rw[hf z hz,if_pos rfl]
    by_cases e2:r=z
    ·subst e2;exact ie (.inr h2)
    ·rw[fE h2 e2]
     have ht2:Q1 Ar r:=by unfold Q1;rw[hf r hsr,if_neg e2];exact aJ
     rcases yD es z with ht| ⟨y,h3,h4⟩
     ·rw[ie ht] at h;injection h with h;exact absurd h.symm e2
     ·rw[fE h3 h4] at h
      cases m with
      | zero=>simp[dV] at h
      | succ m=>exact ie ht2
   ·have h2:xf Ar z=xf es z:=by rw[hf z hz,if_neg e]
    rcases yD es z with ht| ⟨y,h3,h4⟩
    ·rw[ie ht] at h
     injection h with h;subst h
     exact ie (by unfold Q1;rw[h2];exact ht)
    ·rw[fE h3 h4] at h
     rw[fE (h2.trans h3) h4]
     exact yF hx hs hp hf (pj hz hs h3) h
theorem nY: ∀ {n:Nat} {es:List V} {x r:V},bK x=true→es.all iL=true→dV n es x=some r→ ∃es',jo n es x=some (r,es')∧es'.all iL=true∧ ∀m z q,bK z=true→dV m es z=some q→dV m es' z=some q
 | 0,_,_,_,_,_,h=>by simp[dV] at h
 | n+1,es,x,r,hx,hs,h=>by
   have hp:=h
   unfold jo
   rw[Er hx hs]
   rcases e:xf es x with _| y
   ·simp only[dV,e] at h
    injection h with h;subst h
    exact⟨es,rfl,hs,fun _ _ _ _ h=>h⟩
   ·have hy:=pj hx hs e
    simp only[jW hy hx]
    by_cases e2:y=x
    ·simp only[decide_eq_true e2]
     simp only[dV,e,e2,if_true] at h
     injection h with h;subst h
     exact⟨es,rfl,hs,fun _ _ _ _ h=>h⟩
    ·simp only[decide_eq_false e2]
     rw[fE e e2] at h
     obtain⟨QY,h1,h2,h3⟩:=nY hy hs h
     rw[h1]
     obtain⟨ve,oV⟩:=kR hs hy h
     obtain⟨Ar,k1,k2,k3⟩:=CG hx oV h2
     refine⟨Ar,by simp[k1],k2,fun m z q hz hq=> ?_⟩
     exact yF hx h2 (h3 _ _ _ hx hp) k3 hz (h3 _ _ _ hz hq)
structure UF (D:Nat) (es:List V):Prop where
 se:es.all iL=true
 all: ∀z,bK z=true→ ∃q,dV D es z=some q
theorem UF.nil:UF 1 []:=⟨rfl,fun z _=> ⟨z,rfl⟩⟩
theorem UF.root {D:Nat} {es:List V} (h:UF D es) (hD:D≤1000000) {x:V} (hx:bK x=true): ∃r es',AY es [x]=some (r,es')∧bK r=true∧UF D es':=by
 obtain⟨q,hq⟩:=h.all x hx
 obtain⟨es',h1,h2,h3⟩:=nY hx h.se (nq hD hq)
 refine⟨q,es',by simp only[AY,hx,h.se,agE,if_true];exact h1,(kR h.se hx hq).2,h2,fun z hz=> ?_⟩
 obtain⟨p,hp⟩:=h.all z hz
 exact⟨p,h3 _ _ _ hz hp⟩
theorem A8 {es es':List V} {ra rb:V} (hs:es.all iL=true) (ha:Q1 es ra) (hb:Q1 es rb) (hsb:bK rb=true) (hf: ∀z,bK z=true→xf es' z=if z=ra then some rb else xf es z): ∀ {m:Nat} {z q:V},bK z=true→dV m es z=some q→ ∃q',dV (m+1) es' z=some q'
 | 0,_,_,_,h=>by simp[dV] at h
 | m+1,z,q,hz,h=>by
   by_cases e:z=ra
   ·subst e
    have h2:xf es' z=some rb:=by rw[hf z hz,if_pos rfl]
    by_cases e2:rb=z
    ·subst e2;exact⟨_,ie (.inr h2)⟩
    ·rw[fE h2 e2]
     exact⟨_,ie (by unfold Q1;rw[hf rb hsb,if_neg e2];exact hb)⟩
   ·have h2:xf es' z=xf es z:=by rw[hf z hz,if_neg e]
    rcases yD es z with ht| ⟨y,h3,h4⟩
    ·exact⟨_,ie (by unfold Q1;rw[h2];exact ht)⟩
    ·rw[fE h3 h4] at h
     rw[fE (h2.trans h3) h4]
     exact A8 hs ha hb hsb hf (pj hz hs h3) h
theorem UF.join {D:Nat} {es:List V} (h:UF D es) (hD:D≤1000000) {a b:V} (ha:bK a=true) (hb:bK b=true): ∃es',AZ es [a,b]=some (.tuple [],es')∧UF (D+1) es':=by
 obtain⟨ra,Vf⟩:=h.all a ha
 obtain⟨QY,h1,h2,h3⟩:=nY ha h.se (nq hD Vf)
 obtain⟨rb,hrb⟩:=h.all b hb
 have ZN:=h3 _ _ _ hb hrb
 obtain⟨Ar,k1,k2,k3⟩:=nY hb h2 (nq hD ZN)
 obtain⟨tb,sb⟩:=kR k2 hb (k3 _ _ _ hb ZN)
 obtain⟨ta,sa⟩:=kR k2 ha (k3 _ _ _ ha (h3 _ _ _ ha Vf))
 obtain⟨ZO,m1,m2,m3⟩:=CG sa sb k2
 refine⟨ZO,?_,m2,fun z hz=> ?_⟩
 ·simp only[AZ,ha,hb,h.se,agE,if_true,h1,k1,m1];rfl
 ·obtain⟨q,hq⟩:=h.all z hz
  exact A8 k2 ta tb sb m3 hz (k3 _ _ _ hz (h3 _ _ _ hz hq))
def SI (n:Nat) (ae:List V):Prop:= ∀e ∈ ae,∃ (k:V) (j:Nat),e= .tuple [k,ar j]∧bK k=true∧j<n
theorem SI.mono {n m:Nat} {ae:List V} (h:SI n ae) (RD:n≤m):SI m ae:=fun e he=>by
 obtain⟨k,j,h1,h2,h3⟩:=h e he
 exact⟨k,j,h1,h2,ae0⟩
theorem Nx {n:Nat} {r:V} (hr:bK r=true): ∀ {ae:List V},SI n ae→(∃j,j<n∧dB [1,1,1] true (.int .i64 0) ae r= .done (.tuple [ar j,.bool true]))∨dB [1,1,1] true (.int .i64 0) ae r= .done (.tuple [vi 0,.bool false])
 | [],_=> .inr rfl
 | e::ae,h=>by
   obtain⟨k,j,rfl,hk,hj⟩:=h e afU
   by_cases he:r=k
   ·left
    exact⟨j,hj,by simp only[dB,cG,jW hr hk,decide_eq_true he,if_true]⟩
   ·have:=Nx hr (ae:=ae) (fun x hx=>h x (by simp[hx]))
    simpa only[dB,cG,jW hr hk,decide_eq_false he] using this
theorem Ny {n j:Nat} {r:V} (hr:bK r=true) (hj:j<n): ∀ {ae:List V},SI n ae→ ∃Ve,dF [1,1,1] r (ar j) ae=some Ve∧SI n Ve
 | [],_=> ⟨_,rfl,fun e he=> ⟨r,j,by simpa using he,hr,hj⟩⟩
 | e::ae,h=>by
   obtain⟨k,i,rfl,hk,hi⟩:=h e afU
   by_cases he:r=k
   ·refine⟨_,by simp only[dF,jW hr hk,decide_eq_true he];rfl,fun e' kE=> ?_⟩
    rcases af7.1 kE with rfl| kE
    ·exact⟨r,j,rfl,hr,hj⟩
    ·exact h e' (by simp[kE])
   ·obtain⟨Ve,h1,h2⟩:=Ny hr hj (ae:=ae) (fun x hx=>h x (by simp[hx]))
    refine⟨_,by simp only[dF,jW hr hk,decide_eq_false he,h1];rfl,fun e' kE=> ?_⟩
    rcases af7.1 kE with rfl| kE
    ·exact⟨k,i,rfl,hk,hi⟩
    ·exact h2 e' kE
end Go.AM
namespace Go.AM
def fB (ps:List Place) (id:Int):Int:=firstIdx (fun p=>decide (p.id=id)) ps
theorem Nz (p:Place) (id:Int):Ev E 34 [p.v,.eptr (vi id) 0] ⟨.bool (decide (p.id=id)),[]⟩:=by
 refine Ev.aI rfl rfl rfl ?_
 exact dr
theorem CH {l:List Place} {g:Nat} {caps:List V} (hc:V.ak caps=true) {p:Place→Bool} (hlen:l.length< 4611686018427387904)
  (hp: ∀x,Ev E g (x.v::caps) ⟨.bool (p x),[]⟩) (hm:bC E g=[]):Ev E 33 [.lit 7 (l.map Place.v),.fn g caps] ⟨vi (firstIdx p l),[]⟩:=by
 exact qD (a:=true) (fun _=>rfl) (fun _=>rfl) hc hlen hp hm
def Et (place fh:Int) (a b:Place):Int:=
 if place=fh∨a.cls≠b.cls∨b.weight<a.weight∨(a.weight=b.weight∧a.id<b.id) then 1
 else if a.bB≠b.bB then 25
 else if a.name≠[]∧b.name≠[]∧a.name≠b.name then 24
 else 0
def oT (ps:List Place) (place fh:Int):Int:=
 if 0≤fB ps place∧0≤fB ps fh then
  match ps[(fB ps place).toNat]?,ps[(fB ps fh).toNat]? with
  | some a,some b=>Et place fh a b
  | _,_=>0
 else 5
theorem jw (ps:List Place) (id:Int):fB ps id= -1∨ ∃ (i:Nat) (x:Place),fB ps id=(i:Int)∧ps[i]? =some x∧x.id=id:=by
 rcases dU (fun p:Place=>decide (p.id=id)) ps with h| ⟨i,x,h1,h2,h3⟩
 ·exact .inl h.1
 ·exact .inr ⟨i,x,h1,h2,by simpa using h3⟩
section
variable {m:aG} (hlen:m.aA.length< 1000000)
include hlen
theorem Jp (id:Int):Ev E 19 [m.v,vi id] ⟨vi (fB m.aA id),[]⟩:=by
 refine Ev.aI rfl rfl rfl ?_
 conv=>whnf
 repeat' (first| intro g| refine ca (CH rfl ae0 (fun x=>Nz x id) rfl) ?_| refine st ?_| refine br ?_ ?_<;>intro hc| rfl) <;>conv=>whnf
 all_goals rfl
theorem tH (i k:Int):Ev E 15 [m.v,vi i,vi k] ⟨.tuple [vi (fB m.aA i),vi (fB m.aA k),.bool (decide (0≤fB m.aA i) &&decide (0≤fB m.aA k))],[]⟩:=by
 have h:=Jp hlen
 refine Ev.aI rfl rfl rfl ?_
 conv=>whnf
 repeat' (first| intro g| apply ca (h _) | refine st ?_| refine br ?_ ?_<;>intro hc| rfl) <;>conv=>whnf
 all_goals simp[hc]
theorem CI (place fh:Int):Ev E 8 [m.v,vi place,vi fh] ⟨vi (oT m.aA place fh),[]⟩:=by
 have h:=tH hlen place fh
 rcases jw m.aA place with h1| ⟨i,a,h1,ha,hia⟩
 ·have r:oT m.aA place fh=5:=by simp[oT,h1]
  rw[h1] at h;rw[r]
  refine Ev.aI rfl rfl rfl ?_
  conv=>whnf
  repeat' (first| intro g| apply ca h| refine st ?_| refine br ?_ ?_<;>intro hc| rfl) <;>conv=>whnf
  all_goals simp_all
 rcases jw m.aA fh with h2| ⟨k,b,h2,hb,ZP⟩
 ·have r:oT m.aA place fh=5:=by simp[oT,h2]
  rw[h2] at h;rw[r]
  refine Ev.aI rfl rfl rfl ?_
  conv=>whnf
  repeat' (first| intro g| apply ca h| refine st ?_| refine br ?_ ?_<;>intro hc| rfl) <;>conv=>whnf
  all_goals simp_all
 have r:oT m.aA place fh=Et place fh a b:=by simp[oT,h1,h2,ha,hb]
 rw[h1,h2] at h
 rw[r]
 refine Ev.aI rfl rfl rfl ?_
 conv=>whnf
 repeat' (first| intro g| refine wi (av ha rfl) ?_| refine wi (av hb rfl) ?_| apply ca h| refine st ?_| refine br ?_ ?_<;>intro hc| rfl) <;>conv=>whnf
 all_goals (show (⟨vi _,[]⟩:eL)=_;congr 2;unfold Et;first| (simp[*];done) | (simp[*];omega) | (repeat' split) <;>first| rfl| (exfalso;simp_all;done) | (exfalso;simp_all;omega))
end
section
variable {m:aG} (hlen:m.aA.length< 1000000)
include hlen
end
end Go.AM
namespace Go.AM
theorem pk (x:Int):Ev E 36 [vi x] ⟨.bool false,[]⟩:=by
 refine Ev.aI rfl rfl rfl ?_
 conv=>whnf
 repeat' (first| intro g| refine st ?_| refine br ?_ ?_<;>intro hc| rfl) <;>conv=>whnf
 all_goals simp
def tI (x y:Int):Int:=if x<y then -1 else if y<x then 1 else 0
theorem eD (x y:Int):Ev E 23 [vi x,vi y] ⟨vi (tI x y),[]⟩:=by
 refine Ev.aI rfl rfl rfl ?_
 conv=>whnf
 repeat' (first| intro g| apply ca (pk x) | apply ca (pk y) | refine st ?_| refine br ?_ ?_<;>intro hc| rfl) <;>conv=>whnf
 all_goals simp[tI, *]
 all_goals omega
def NA (a b:Int):Int:=if a=0 then b else a
theorem Hk (a b:Int):Ev E 22 [.lit 1 [vi a,vi b]] ⟨vi (NA a b),[]⟩:=by
 refine Ev.aI rfl rfl rfl ?_
 conv=>whnf
 repeat' (first| intro g| refine st ?_| refine br ?_ ?_<;>intro hc| rfl) <;>conv=>whnf
 refine aO.by (fun i:Nat=> ⟨[(3,vi 0),(6,.lit 1 [vi a,vi b]),(7,ar 2),(8,ar i)],[]⟩) (fun i=>i≤2∧(1≤i→a=0)∧(2≤i→b=0)) (fun i=>2 - i) 0 ?_ ?_ ?_
 ·exact su
 ·simp
 rintro i ⟨hi,h1,h2⟩
 rcases(by omega:i=0∨i=1∨i=2) with rfl| rfl| rfl
 ·conv=>whnf
  repeat' (first| intro g| refine st ?_| refine br ?_ ?_<;>intro hc| rfl) <;>conv=>whnf
  ·simp[NA,hc]
  ·refine aK.mk (1) om ?_ su
   exact⟨ae0,fun _=>by simpa using hc,fun h=>ae0⟩
 ·have ha:=h1 ae0
  conv=>whnf
  repeat' (first| intro g| refine st ?_| refine br ?_ ?_<;>intro hc| rfl) <;>conv=>whnf
  ·simp[NA,ha]
  ·refine aK.mk (2) om ?_ su
   exact⟨ae0,fun _=>ha,fun _=>by simpa using hc⟩
 ·have ha:=h1 ae0
  have hb:=h2 ae0
  conv=>whnf
  repeat' (first| intro g| refine st ?_| refine br ?_ ?_<;>intro hc| rfl) <;>conv=>whnf
  all_goals simp[NA,ha,hb]
def IsSqrt (n s:Int):Prop:=0≤s∧s*s≤n∧n< (s+1)*(s+1)
theorem iX {a b:Int} (h0:0≤a) (h:a≤b):a*a≤b*b:=Int.mul_le_mul h h h0 ae0
theorem IsSqrt.uniq {n s t:Int} (h:IsSqrt n s) (k:IsSqrt n t):s=t:=by
 obtain⟨h1,h2,h3⟩:=h
 obtain⟨k1,k2,k3⟩:=k
 rcases Int.lt_trichotomy s t with hl| hl| hl
 ·have:=iX (a:=s+1) (b:=t) ae0 ae0;omega
 ·exact hl
 ·have:=iX (a:=t+1) (b:=s) ae0 ae0;omega
open Classical in
noncomputable def lA (n:Int):Int:=if h: ∃s,IsSqrt n s then h.choose else 0
theorem lB {n s:Int} (h:IsSqrt n s):lA n=s:=by
 have hex: ∃s,IsSqrt n s:=⟨s,h⟩
 unfold lA;rw[dif_pos hex];exact hex.choose_spec.uniq h
theorem vf {n:Int} (h:n≤0):lA n=0:=by
 by_cases hz:n=0
 ·subst hz;exact lB ⟨ae0,ae0,ae0⟩
 ·unfold lA;rw[dif_neg]
  rintro⟨s,h1,h2,h3⟩
  have:=ahD h1 h1
  omega
theorem pn {b r:Nat} (h:FloatKind.f64.format.sqrt b=some r):Ev E 41 [.float b] ⟨.float r,[]⟩:=by
 have Q3:Ev E 52 [.float b] ⟨.float r,[]⟩:=Ev.ext (by rw[ZI];simp[AW,h])
 refine Ev.aI rfl rfl rfl ?_
 exact dr
theorem xI {n:Int} (h1:n≤9223372036854775807):Ev E 27 [vi n] ⟨vi (lA n),[]⟩:=by
 by_cases h0:0 <n
 case neg=>
  rw[vf ae0]
  refine Ev.aI rfl rfl rfl ?_
  conv=>whnf
  repeat' (first| intro g| refine st ?_| refine br ?_ ?_<;>intro hc| rfl) <;>conv=>whnf
  all_goals trivial
 obtain⟨r,m,hr,hm,Jq,Xn⟩:=Eu h0 h1
 have e1:IntKind.i64.min≤m:=by simp[IntKind.min,IntKind.signed,IntKind.bits];omega
 have e2:m≤IntKind.i64.max:=by simp[IntKind.max,IntKind.signed,IntKind.bits];omega
 refine Ev.aI rfl rfl rfl ?_
 conv=>whnf
 repeat' (first| intro g| refine wi ((⟨hm,e1,e2⟩:_∧_∧_)) ?_| apply ca (pn hr) | refine st ?_| refine br ?_ ?_<;>intro hc| rfl) <;>conv=>whnf
 generalize X3: (if 3037000499 <m then(3037000499:Int) else m)=s0
 have yG:0≤s0∧s0≤3037000499:=by split at X3<;>omega
 refine aO.by (fun s:Int=> ⟨[(0,vi n),(3,vi s)],[]⟩) (fun s=>0≤s∧s≤3037000499) (fun s=>s.toNat) s0 ?_ yG ?_
 ·exact su
 rintro s ⟨iY,nZ⟩
 have Q3:=iX iY nZ
 have NB:0≤s*s:=ahD iY iY
 have hw:IntKind.i64.wrap (s*s)=s*s:=wrap64 ae0 ae0
 conv=>whnf
 repeat' (first| intro g| refine st ?_| refine br ?_ ?_<;>intro hc| rfl) <;>conv=>whnf
 ·rw[hw] at hc
  have:0 <s:=by
   rcases Int.lt_or_le 0 s with h| h
   ·exact h
   · have:s=0:=ae0
     subst this;omega
  refine aK.mk (s - 1) om ?_ su
  exact⟨ae0,ae0⟩
 rw[hw] at hc
 refine aO.by (fun s:Int=> ⟨[(0,vi n),(3,vi s)],[]⟩) (fun s=>0≤s∧s≤3037000499∧s*s≤n) (fun s=> (3037000499 - s).toNat) s ?_ ⟨iY,nZ,ae0⟩ ?_
 ·exact su
 clear hw Q3 NB hc iY nZ s
 rintro s ⟨iY,nZ,hle⟩
 by_cases bk:s< 3037000499
 ·have Q3:=iX (a:=s+1) (b:=3037000499) ae0 ae0
  have NB:0≤(s+1)*(s+1):=ahD ae0 ae0
  have Kz:IntKind.i64.wrap (s+1)=s+1:=wrap64 ae0 ae0
  have hw:IntKind.i64.wrap ((s+1)*(s+1))=(s+1)*(s+1):=wrap64 ae0 ae0
  conv=>whnf
  repeat' (first| intro g| refine st ?_| refine br ?_ ?_<;>intro hc| rfl) <;>conv=>whnf
  ·rw[Kz,hw] at hc
   refine aK.mk (s+1) om ?_ su
   exact⟨ae0,ae0,hc⟩
  ·rw[Kz,hw] at hc
   rw[lB ⟨iY,hle,ae0⟩]
 ·conv=>whnf
  repeat' (first| intro g| refine st ?_| refine br ?_ ?_<;>intro hc| rfl) <;>conv=>whnf
  have:=iX (a:=3037000500) (b:=s+1) ae0 ae0
  rw[lB ⟨iY,hle,ae0⟩]
end Go.AM
namespace Go.AM
def sqV (ax ay bx b_y:Int):Int:=jV (jV (jV (ax - bx)*jV (ax - bx))+jV (jV (ay - b_y)*jV (ay - b_y)))
theorem Jr (n:Int):IntKind.i64.wrap n≤9223372036854775807:=by
 simp[IntKind.wrap,IntKind.bits,IntKind.signed]
 split<;>omega
theorem sg (a b:Pt):Ev E 37 [a.v,b.v] ⟨(Pt.mk (jV (a.x - b.x)) (jV (a.y - b.y))).v,[]⟩:=by
 refine Ev.aI rfl rfl rfl ?_
 exact dr
theorem NC (a b:Pt):Ev E 38 [a.v,b.v] ⟨vi (jV (jV (a.x*b.x)+jV (a.y*b.y))),[]⟩:=by
 refine Ev.aI rfl rfl rfl ?_
 exact dr
theorem vg (a b:Pt):Ev E 24 [a.v,b.v] ⟨vi (sqV a.x a.y b.x b.y),[]⟩:=by
 refine Ev.aI rfl rfl rfl ?_
 conv=>whnf
 repeat' (first| intro g| apply ca (sg a b) | apply ca (NC _ _) | refine st ?_| refine br ?_ ?_<;>intro hc| rfl) <;>conv=>whnf
def Place.at_ (p:Place):Pt:=⟨p.x,p.y⟩
def sqP (a b:Place):Int:=sqV a.x a.y b.x b.y
noncomputable def ND (a b:Place):Int:=jV ((lA (sqP a b)).tdiv 4)
noncomputable def nr (ps:List Place) (place fh:Int):Int:=
 match ps[(fB ps place).toNat]?,ps[(fB ps fh).toNat]? with
 | some a,some b=>if 0≤fB ps place∧0≤fB ps fh then ND a b else 0
 | _,_=>0
section
variable {m:aG} (hlen:m.aA.length< 1000000)
include hlen
theorem xJ (place fh:Int):Ev E 12 [m.v,vi place,vi fh] ⟨vi (nr m.aA place fh),[]⟩:=by
 have h:=tH hlen place fh
 rcases jw m.aA place with h1| ⟨i,a,h1,ha,hia⟩
 ·have r:nr m.aA place fh=0:=by simp[nr,h1];split<;>rfl
  rw[h1] at h;rw[r]
  refine Ev.aI rfl rfl rfl ?_
  conv=>whnf
  repeat' (first| intro g| apply ca h| refine st ?_| refine br ?_ ?_<;>intro hc| rfl) <;>conv=>whnf
  all_goals simp_all
 rcases jw m.aA fh with h2| ⟨k,b,h2,hb,ZP⟩
 ·have r:nr m.aA place fh=0:=by simp[nr,h2];split<;>rfl
  rw[h2] at h;rw[r]
  refine Ev.aI rfl rfl rfl ?_
  conv=>whnf
  repeat' (first| intro g| apply ca h| refine st ?_| refine br ?_ ?_<;>intro hc| rfl) <;>conv=>whnf
  all_goals simp_all
 have r:nr m.aA place fh=ND a b:=by simp[nr,h1,h2,ha,hb]
 rw[h1,h2] at h
 rw[r]
 refine Ev.aI rfl rfl rfl ?_
 conv=>whnf
 repeat' (first| intro g| refine wi (av ha rfl) ?_| refine wi (av hb rfl) ?_| apply ca h| apply ca (vg a.at_ b.at_) | apply ca (xI (Jr _)) | refine st ?_| refine br ?_ ?_<;>intro hc| rfl) <;>conv=>whnf
 all_goals simp_all
end
def tJ (p a b:Place):Int:=NA (tI (sqP p a) (sqP p b)) (tI a.id b.id)
theorem Hl (p a b:Place):Ev E 21 [a.v,b.v,.eptr p.v 0] ⟨vi (tJ p a b),[]⟩:=by
 refine Ev.aI rfl rfl rfl ?_
 conv=>whnf
 repeat' (first| intro g| apply ca (vg p.at_ a.at_) | apply ca (vg p.at_ b.at_) | apply ca (eD _ _) | apply ca (Hk _ _) | refine st ?_| refine br ?_ ?_<;>intro hc| rfl) <;>conv=>whnf
def xg {α:Type} (c:α→α→Int) (l:List α) (x:α):α:=l.foldl (fun m y=>if c y m< 0 then y else m) x
theorem Hm {l:List Place} {x0:Place} (hlen:l.length< 1000000) {g':Nat} {caps:List V} (hc:V.ak caps=true) (hm:bC E g'=[]) {c:Place→Place→Int}
  (hp: ∀a b,Ev E g' (a.v::b.v::caps) ⟨vi (c a b),[]⟩):Ev E 35 [.lit 7 ((x0::l).map Place.v),.fn g' caps] ⟨(xg c l x0).v,[]⟩:=by
 refine Ev.aI rfl rfl rfl ?_
 conv=>whnf
 repeat' (first| intro g| refine st ?_| refine br ?_ ?_<;>intro hc| rfl) <;>conv=>whnf
 rename_i g2
 refine aO.by (fun (p:Nat×Place)=> ⟨[(0,.lit 7 ((x0::l).map Place.v)),(1,.fn g' caps),(4,.ptr 80 g2 0 0),(5,.ptr 96 g 0 0),(6,ar (p.1+1))],
   [(96,⟨g,7,false,false,some [p.2.v]⟩),(80,⟨g2,7,false,false,some [(Place.mk 0 0 0 [] [] 0 0).v]⟩)]⟩)
  (fun p=>p.1≤l.length∧p.2=xg c (l.take p.1) x0) (fun p=>l.length - p.1) (0,x0) ?_ ?_ ?_
 ·exact su
 ·simp[xg]
 rintro⟨i,y⟩ ⟨hi,hy⟩
 dsimp only at hi hy
 conv=>whnf
 repeat' (first| intro g| refine wi (av (l:=x0::l) (aL (i:=i+1) (by simp only[agb];omega)) rfl) ?_| refine sf (hp _ _) ?_| refine st ?_| refine br ?_ ?_<;>intro hc| rfl) <;>conv=>whnf
 ·have e: (x0::l)[i+1]'(by simp only[agb];omega)=l[i]' ae0:=rfl
  refine aK.mk (i+1,l[i]' ae0) om ⟨om,?_⟩ su
  have:i<l.length:=ae0
  rw[List.take_succ_eq_append_getElem this,xg,List.foldl_append,List.foldl_cons,List.foldl_nil]
  rw[e,hy] at hc
  exact(if_pos hc).symm
 ·have e: (x0::l)[i+1]'(by simp only[agb];omega)=l[i]' ae0:=rfl
  refine aK.mk (i+1,y) om ⟨om,?_⟩ su
  have:i<l.length:=ae0
  rw[List.take_succ_eq_append_getElem this,xg,List.foldl_append,List.foldl_cons,List.foldl_nil]
  rw[e,hy] at hc
  rw[hy]
  exact(if_neg hc).symm
 ·obtain rfl:i=l.length:=ae0
  rw[ag9] at hy
  subst hy;rfl
theorem KC (p:Place):Ev E 20 [.lit 7 [],.fn 21 [.eptr p.v 0]] ⟨.tuple [(Place.mk 0 0 0 [] [] 0 0).v,.bool false],[]⟩:=by
 refine Ev.aI rfl rfl rfl ?_
 exact dr
theorem NF (p:Place) {l:List Place} {x0:Place} (hlen:l.length< 1000000):Ev E 20 [.lit 7 ((x0::l).map Place.v),.fn 21 [.eptr p.v 0]] ⟨.tuple [(xg (tJ p) l x0).v,.bool true],[]⟩:=by
 have h:=Hm hlen (g':=21) (caps:=[.eptr p.v 0]) rfl rfl (fun a b=>Hl p a b) (x0:=x0)
 refine Ev.aI rfl rfl rfl ?_
 exact dr
end Go.AM
namespace Go.AM
theorem yH {k g:Nat} {cf:List Int→List Int→Int} (hO:Go.Sort.SWO (Go.Proofs.ltOf cf)) (hX: ∀xs,E.ext k xs=lu 5 g cf xs) (hh:E.hyb k=none) {l:List Event} (h:l.length< 4611686018427387904): ∃l':List Event,l'.Perm l∧Ev E k [.msl 5 (l.map Event.v) 0 l.length,.fn g []] ⟨.tuple [],[(0,l'.map Event.v)]⟩:=by
 obtain⟨l',h1,h2⟩:=wo (v:=Event.v) (k:=5) (g:=g) (fun e=> [e.kind,e.at_,e.id,e.other,e.n]) (fun l=> ⟨l.getD 0 0,l.getD 1 0,l.getD 2 0,l.getD 3 0,l.getD 4 0⟩) (fun _=>rfl) (fun _=>rfl) (fun _=>rfl) afV hO h
 exact⟨l',h1,Ev.ext ((hX _).trans h2) hh⟩
theorem NG {l:List Event} (h:l.length< 4611686018427387904): ∃l':List Event,l'.Perm l∧Ev E 544 [.msl 5 (l.map Event.v) 0 l.length,.fn 545 []] ⟨.tuple [],[(0,l'.map Event.v)]⟩:=yH (xK 2 4) (fun _=>rfl) rfl h
theorem NH {l:List Event} (h:l.length< 4611686018427387904): ∃l':List Event,l'.Perm l∧Ev E 25 [.msl 5 (l.map Event.v) 0 l.length,.fn 26 []] ⟨.tuple [],[(0,l'.map Event.v)]⟩:=yH (Js 2) (fun _=>rfl) rfl h
theorem Ew (a b:Pt): ∃p q:Pt,Ev E 253 [.msl 2 [a.v,b.v] 0 2,.fn 254 []] ⟨.tuple [],[(0,[p.v,q.v])]⟩:=by
 obtain⟨l',h1,h2⟩:=wo (v:=Pt.v) (k:=2) (g:=254) (l:=[a,b]) (fun p=> [p.x,p.y]) (fun l=> ⟨l.getD 0 0,l.getD 1 0⟩) (fun _=>rfl) (fun _=>rfl) (fun _=>rfl) afV (xK 0 1) afU
 match l',h1.length_eq with
 | [p,q],_=>exact⟨p,q,Ev.ext h2⟩
end Go.AM
namespace Go.AM
def po (ps:List Place) (p:Place) (j:Nat):Option Place:=match ps[j]? with
 | some o=>if fB ps o.id=j∧oT ps p.id o.id=0 then some o else none
 | none=>none
def ml (ps:List Place) (p:Place) (i:Nat):List Place:=(List.range i).filterMap (po ps p)
def vh (ps:List Place) (p:Place) (j:Nat):Option Place:=match ml ps p j with
 | []=>none
 | x::xs=>some (xg (tJ p) xs x)
theorem CJ (ps:List Place) (p:Place) (i:Nat):ml ps p (i+1)=ml ps p i++(po ps p i).toList:=by
 simp only[ml,List.range_succ,List.filterMap_append]
 cases h:po ps p i<;>simp[List.filterMap_cons,h]
theorem Ex (ps:List Place) (p:Place) (i:Nat): (ml ps p i).length≤i:=by
 simp only[ml]
 exact agm (ahW _ _) afU
theorem Ey {α:Type} (c:α→α→Int): ∀ (l:List α) (x:α),xg c l x ∈ x::l
 | [],x=>by simp[xg]
 | y::l,x=>by
   have ih:=Ey c l (if c y x< 0 then y else x)
   have e:xg c (y::l) x=xg c l (if c y x< 0 then y else x):=rfl
   rw[e]
   rcases af7.1 ih with h| h
   ·rw[h];split<;>simp
   ·simp[h]
theorem Hn {ps:List Place} {p o:Place} {j:Nat} (h:po ps p j=some o):ps[j]? =some o∧fB ps o.id=j∧oT ps p.id o.id=0:=by
 unfold po at h
 split at h
 ·split at h
  ·rename_i hc
   injection h with h;subst h
   exact⟨by assumption,hc.1,hc.2⟩
  ·simp at h
 ·simp at h
theorem Ho {ps:List Place} {p o:Place} {j:Nat} (h:vh ps p j=some o): ∃i,i<j∧ps[i]? =some o∧fB ps o.id=i∧oT ps p.id o.id=0:=by
 unfold vh at h
 split at h
 ·simp at h
 ·rename_i x xs hc
  injection h with h
  have:=Ey (tJ p) xs x
  rw[h,←hc,ml,List.mem_filterMap] at this
  obtain⟨i,hi,h2⟩:=this
  exact⟨i,by simpa using hi,Hn h2⟩
noncomputable def yI (ps:List Place) (d:Int) (j:Nat):Option Event:=match ps[j]? with
 | some p=>if p.bB=d∧fB ps p.id=j then(match vh ps p ps.length with
   | some o=>some ⟨4,if 1 <nr ps p.id o.id then nr ps p.id o.id else 1,p.id,o.id,0⟩
   | none=>none) else none
 | none=>none
noncomputable def pq (ps:List Place) (d:Int) (i:Nat):List Event:=(List.range i).filterMap (yI ps d)
theorem Ez (ps:List Place) (d:Int) (i:Nat):pq ps d (i+1)=pq ps d i++(yI ps d i).toList:=by
 simp only[pq,List.range_succ,List.filterMap_append]
 cases h:yI ps d i<;>simp[List.filterMap_cons,h]
theorem sh (ps:List Place) (d:Int) (i:Nat): (pq ps d i).length≤i:=by
 simp only[pq]
 exact agm (ahW _ _) afU
end Go.AM
namespace Go.AM
section
variable {m:aG} (hlen:m.aA.length< 1000000)
include hlen
theorem Hp (d:Int): ∃l':List Event,l'.Perm (pq m.aA d m.aA.length)∧Ev E 9 [m.v,vi d] ⟨.own 5 (l'.map Event.v),[]⟩:=by
 have tK:=Jp hlen
 have Hq:=CI hlen
 have ZQ:=xJ hlen
 have afA:=sh m.aA d m.aA.length
 obtain⟨l',Hi,EA⟩:=NH (l:=pq m.aA d m.aA.length) ae0
 refine⟨l',Hi,?_⟩
 have TX:=Hi.length_eq
 refine Ev.aI rfl rfl rfl ?_
 conv=>whnf
 repeat' (first| intro g| refine st ?_| refine br ?_ ?_<;>intro hc| rfl) <;>conv=>whnf
 rename_i g1 g2
 refine aO.by (fun ((k,es,g5):Nat×List Event×Nat)=> ⟨[(1,vi d),(2,.ptr 48 g1 0 0),(5,.sl 97 g5 0 es.length),(14,.lit 7 (m.aA.map Place.v)),(15,ar (m.aA.map Place.v).length),(16,ar k)],[(48,⟨g1,4,false,false,some [m.v]⟩),(97,⟨g5,5,true,false,some (es.map Event.v)⟩)]⟩)
  (fun (k,es,_)=>k≤m.aA.length∧es=pq m.aA d k) (fun (k,_)=>m.aA.length - k) (0,[],g) su ⟨afU,rfl⟩ ?_
 rintro⟨k,es,g5⟩ ⟨hk,bo⟩
 try dsimp only at hk bo
 have rB:=sh m.aA d k
 rw[←bo] at rB
 by_cases bk:k<m.aA.length
 ·obtain⟨p,Q4⟩: ∃p,m.aA[k]? =some p:=⟨_,aL bk⟩
  have hs:=Ez m.aA d k
  rw[←bo] at hs
  have hfp:=tK p.id
  by_cases hd:p.bB=d
  case neg=>
   have he:yI m.aA d k=none:=by simp[yI,Q4,hd]
   rw[he] at hs
   conv=>whnf
   repeat' (first| intro g| refine wi (av Q4 rfl) ?_| apply ca hfp| refine st ?_| refine br ?_ ?_<;>intro hc| rfl) <;>conv=>whnf
   all_goals exact aK.mk (k+1,es,g5) om ⟨om,by simpa using hs.symm⟩ su
  by_cases hf:fB m.aA p.id=k
  case neg=>
   have he:yI m.aA d k=none:=by simp[yI,Q4,hf]
   rw[he] at hs
   conv=>whnf
   repeat' (first| intro g| refine wi (av Q4 rfl) ?_| apply ca hfp| refine st ?_| refine br ?_ ?_<;>intro hc| rfl) <;>conv=>whnf
   all_goals exact aK.mk (k+1,es,g5) om ⟨om,by simpa using hs.symm⟩ su
  rw[hf] at hfp
  conv=>whnf
  repeat' (first| intro g| refine wi (av Q4 rfl) ?_| apply ca hfp| refine st ?_| refine br ?_ ?_<;>intro hc| rfl) <;>conv=>whnf
  rename_i g7
  refine aO.by (fun ((i,cs,g8):Nat×List Place×Nat)=> ⟨[(1,vi d),(2,.ptr 48 g1 0 0),(5,.sl 97 g5 0 es.length),(14,.lit 7 (m.aA.map Place.v)),(15,ar (m.aA.map Place.v).length),(16,ar k),
     (7,.ptr 128 g7 0 0),(8,.sl 145 g8 0 cs.length),(34,.lit 7 (m.aA.map Place.v)),(35,ar (m.aA.map Place.v).length),(36,ar i)],
     [(48,⟨g1,4,false,false,some [m.v]⟩),(97,⟨g5,5,true,false,some (es.map Event.v)⟩),(128,⟨g7,7,false,false,some [p.v]⟩),(145,⟨g8,7,true,false,some (cs.map Place.v)⟩)]⟩)
   (fun (i,cs,_)=>i≤m.aA.length∧cs=ml m.aA p i) (fun (i,_)=>m.aA.length - i) (0,[],g) su ⟨afU,rfl⟩ ?_
  rintro⟨i,cs,g8⟩ ⟨hi,nM⟩
  try dsimp only at hi nM
  have ig:=Ex m.aA p i
  rw[←nM] at ig
  by_cases Vb:i<m.aA.length
  ·obtain⟨o,ho⟩: ∃o,m.aA[i]? =some o:=⟨_,aL Vb⟩
   have nZ:=CJ m.aA p i
   rw[←nM] at nZ
   have EB:=tK o.id
   have hca:=Hq p.id o.id
   by_cases KD:fB m.aA o.id=i
   case neg=>
     have hc:po m.aA p i=none:=by simp[po,ho,KD]
     rw[hc] at nZ
     conv=>whnf
     repeat' (first| intro g| refine wi (av ho rfl) ?_| apply ca EB| apply ca hca| refine st ?_| refine br ?_ ?_<;>intro hc| rfl) <;>conv=>whnf
     all_goals exact aK.mk (i+1,cs,g8) om ⟨om,by simpa using nZ.symm⟩ su
   rw[KD] at EB
   by_cases il:oT m.aA p.id o.id=0
   case neg=>
     have hc:po m.aA p i=none:=by simp[po,ho,il]
     rw[hc] at nZ
     conv=>whnf
     repeat' (first| intro g| refine wi (av ho rfl) ?_| apply ca EB| apply ca hca| refine st ?_| refine br ?_ ?_<;>intro hc| rfl) <;>conv=>whnf
     all_goals exact aK.mk (i+1,cs,g8) om ⟨om,by simpa using nZ.symm⟩ su
   rw[il] at hca
   have hc:po m.aA p i=some o:=by simp[po,ho,KD,il]
   rw[hc] at nZ
   conv=>whnf
   repeat' (first| intro g| refine wi (av ho rfl) ?_| apply ca EB| apply ca hca| refine st ?_| refine br ?_ ?_<;>intro hc| rfl) <;>conv=>whnf
   exact aK.mk (i+1,cs++[o],g) om ⟨om,by simpa using nZ.symm⟩ su
  ·have:i=m.aA.length:=ae0
   subst this
   have tL:yI m.aA d k=(match vh m.aA p m.aA.length with
     | some o=>some ⟨4,if 1 <nr m.aA p.id o.id then nr m.aA p.id o.id else 1,p.id,o.id,0⟩
     | none=>none):=by
     simp only[yI,Q4,hd,hf,and_self,if_true]
     try (cases vh m.aA p m.aA.length<;>rfl)
   unfold vh at tL
   rw[←nM] at tL
   cases cs with
   | nil=>
     have hle:=KC p
     dsimp only at tL
     conv=>whnf
     repeat' (first| intro g| refine wi (iW (l:=([]:List Place)) rfl) ?_| apply ca hle| refine st ?_| refine br ?_ ?_<;>intro hc| rfl) <;>conv=>whnf
     rw[tL] at hs
     exact aK.mk (k+1,es,g5) om ⟨om,by simpa using hs.symm⟩ su
   | cons x xs=>
     have hle:=NF p (l:=xs) (x0:=x) (by simp only[agb] at ig;omega)
     dsimp only at tL
     generalize hxo:xg (tJ p) xs x=o at hle tL
     have hco:=ZQ p.id o.id
     conv=>whnf
     repeat' (first| intro g| refine wi (iW rfl) ?_| apply ca hle| apply ca hco| refine st ?_| refine br ?_ ?_<;>intro hc| rfl) <;>conv=>whnf
     rw[tL] at hs
     exact aK.mk (k+1,es++[⟨4,if 1 <nr m.aA p.id o.id then nr m.aA p.id o.id else 1,p.id,o.id,0⟩],g) om ⟨om,by simpa using hs.symm⟩ su
 ·have:k=m.aA.length:=ae0
  subst this
  subst bo
  conv=>whnf
  repeat' (first| intro g| refine wi (iW ae0) ?_| apply ca EA| refine st ?_| refine br ?_ ?_<;>intro hc| rfl) <;>conv=>whnf
end
end Go.AM
namespace Go.AM
section
variable {m:aG} (hlen:m.aA.length< 1000000)
include hlen
end
end Go.AM
namespace Go.AM
theorem vj (l:List Edge) (h:l.length< 1000000):Ev E 28 [.lit 4 (l.map Edge.v)] ⟨.own 4 (l.map Edge.v),[]⟩:=
 Ev.ext (by rw[ZD];simp[dy];omega)
theorem qE (l:List aX) (h:l.length< 1000000):Ev E 29 [.lit 5 (l.map aX.v)] ⟨.own 5 (l.map aX.v),[]⟩:=
 Ev.ext (by rw[ZE];simp[dy];omega)
theorem qF (l:List Way) (h:l.length< 1000000):Ev E 30 [.lit 8 (l.map Way.v)] ⟨.own 8 (l.map Way.v),[]⟩:=
 Ev.ext (by rw[ZF];simp[dy];omega)
theorem ns (l:List Place) (h:l.length< 1000000):Ev E 31 [.lit 7 (l.map Place.v)] ⟨.own 7 (l.map Place.v),[]⟩:=
 Ev.ext (by rw[ZG];simp[dy];omega)
theorem eE (l:List Pt) (h:l.length< 1000000):Ev E 32 [iy l] ⟨.own 2 (l.map Pt.v),[]⟩:=
 Ev.ext (by rw[ZC];simp[dy,iy];omega)
structure aG.Fit (m:aG):Prop where
 e:m.az.length< 1000000
 f:m.al.length< 1000000
 w:m.ways.length< 1000000
 p:m.aA.length< 1000000
 el: ∀e ∈ m.az,e.line.length< 1000000
 wl: ∀w ∈ m.ways,w.line.length< 1000000
def TY (a b:CB):CB:=if a=[] then b else a
theorem NI (a b:CB):Ev E 17 [.lit 1 [.str a,.str b]] ⟨.str (TY a b),[]⟩:=by
 refine Ev.aI rfl rfl rfl ?_
 conv=>whnf
 repeat' (first| intro g| refine st ?_| refine br ?_ ?_<;>intro hc| rfl) <;>conv=>whnf
 refine aO.by (fun i:Nat=> ⟨[(3,.str []),(6,.lit 1 [.str a,.str b]),(7,ar 2),(8,ar i)],[]⟩) (fun i=>i≤2∧(1≤i→a=[])∧(2≤i→b=[])) (fun i=>2 - i) 0 su ?_ ?_
 ·simp
 rintro i ⟨hi,h1,h2⟩
 rcases(by omega:i=0∨i=1∨i=2) with rfl| rfl| rfl
 ·conv=>whnf
  repeat' (first| intro g| refine st ?_| refine br ?_ ?_<;>intro hc| rfl) <;>conv=>whnf
  ·simp[TY,hc]
  ·refine aK.mk (1) om ?_ su
   exact⟨ae0,fun _=>by simpa using hc,fun h=>ae0⟩
 ·have ha:=h1 ae0
  conv=>whnf
  repeat' (first| intro g| refine st ?_| refine br ?_ ?_<;>intro hc| rfl) <;>conv=>whnf
  ·simp[TY,ha]
  ·refine aK.mk (2) om ?_ su
   exact⟨ae0,fun _=>ha,fun _=>by simpa using hc⟩
 ·have ha:=h1 ae0
  have hb:=h2 ae0
  conv=>whnf
  repeat' (first| intro g| refine st ?_| refine br ?_ ?_<;>intro hc| rfl) <;>conv=>whnf
  all_goals simp[TY,ha,hb]
theorem KE {m:aG} (h:m.Fit):Ev E 16 [m.v] ⟨.agg [.own 4 (m.az.map Edge.v),.own 5 (m.al.map aX.v),.own 8 (m.ways.map Way.v),.own 7 (m.aA.map Place.v)],[]⟩:=by
 have hle:=h.e
 have hlw:=h.w
 have c1:=vj m.az h.e
 have c2:=qE m.al h.f
 have c3:=qF m.ways h.w
 have c4:=ns m.aA h.p
 refine Ev.aI rfl rfl rfl ?_
 conv=>whnf
 repeat' (first| intro g| apply ca c1| apply ca c2| apply ca c3| apply ca c4| refine st ?_| refine br ?_ ?_<;>intro hc| rfl) <;>conv=>whnf
 rename_i g1 g2 gE gF gW gP
 have hE: ∀ {l:List Edge} {i:Nat} {x:Edge},l[i]? =some x→(l.map Edge.v).set (i:Int).toNat (.agg [vi x.id,.lit 2 (x.line.map Pt.v),vi x.left,vi x.right])=l.map Edge.v:=fun h=>tD h
 have hW: ∀ {l:List Way} {i:Nat} {x:Way},l[i]? =some x→(l.map Way.v).set (i:Int).toNat (.agg [vi x.id,.lit 2 (x.line.map Pt.v),vi x.level,.str x.cls,.str x.name,.bool x.yC,vi x.weight,vi x.bB])=l.map Way.v:=fun h=>tD h
 refine aO.by (fun (i:Nat)=> ⟨[(2,.ptr 48 g2 0 0),(3,.ptr 64 g 0 0),(21,ar (m.az.map Edge.v).length),(22,ar i)],
   [(64,⟨g,4,false,false,some [.agg [.sl 144 gE 0 (m.az.map Edge.v).length,.sl 192 gF 0 (m.al.map aX.v).length,.sl 240 gW 0 (m.ways.map Way.v).length,.sl 288 gP 0 (m.aA.map Place.v).length]]⟩),
    (48,⟨g2,4,false,false,some [.agg [.lit 4 [],.lit 5 [],.lit 8 [],.lit 7 []]]⟩),
    (144,⟨gE,4,true,false,some (m.az.map Edge.v)⟩),(192,⟨gF,5,true,false,some (m.al.map aX.v)⟩),(240,⟨gW,8,true,false,some (m.ways.map Way.v)⟩),(288,⟨gP,7,true,false,some (m.aA.map Place.v)⟩)]⟩)
  (fun i=>i≤m.az.length) (fun i=>m.az.length - i) 0 su afU ?_
 rintro i hi
 by_cases bk:i<m.az.length
 ·obtain⟨e,he⟩: ∃e,m.az[i]? =some e:=⟨_,aL bk⟩
  have ig:=eE e.line (h.el e (List.mem_of_getElem? he))
  conv=>whnf
  repeat' (first| intro g| refine wi (av he rfl) ?_| apply ca ig| refine st ?_| refine br ?_ ?_<;>intro hc| rfl) <;>conv=>whnf
  have e1: (⟨gE,4,true,false,some ((m.az.map Edge.v).set (i:Int).toNat (.agg [vi e.id,.lit 2 (e.line.map Pt.v),vi e.left,vi e.right]))⟩:Obj)=⟨gE,4,true,false,some (m.az.map Edge.v)⟩:=by rw[hE he]
  exact aK.mk (i+1) om ae0 (by(refine⟨?_,?_⟩ <;>repeat' (first| exact True.intro| refine And.intro (e1) ?_| refine ai ?_| refine And.intro ?_ ?_)))
 obtain rfl:i=m.az.length:=ae0
 conv=>whnf
 repeat' (first| intro g| refine st ?_| refine br ?_ ?_<;>intro hc| rfl) <;>conv=>whnf
 refine aO.by (fun (i:Nat)=> ⟨[(2,.ptr 48 g2 0 0),(3,.ptr 64 g 0 0),(40,ar (m.ways.map Way.v).length),(41,ar i)],
   [(64,⟨g,4,false,false,some [.agg [.sl 144 gE 0 (m.az.map Edge.v).length,.sl 192 gF 0 (m.al.map aX.v).length,.sl 240 gW 0 (m.ways.map Way.v).length,.sl 288 gP 0 (m.aA.map Place.v).length]]⟩),
    (48,⟨g2,4,false,false,some [.agg [.lit 4 [],.lit 5 [],.lit 8 [],.lit 7 []]]⟩),
    (144,⟨gE,4,true,false,some (m.az.map Edge.v)⟩),(192,⟨gF,5,true,false,some (m.al.map aX.v)⟩),(240,⟨gW,8,true,false,some (m.ways.map Way.v)⟩),(288,⟨gP,7,true,false,some (m.aA.map Place.v)⟩)]⟩)
  (fun i=>i≤m.ways.length) (fun i=>m.ways.length - i) 0 su afU ?_
 rintro i hi
 by_cases bk:i<m.ways.length
 ·obtain⟨e,he⟩: ∃e,m.ways[i]? =some e:=⟨_,aL bk⟩
  have ig:=eE e.line (h.wl e (List.mem_of_getElem? he))
  conv=>whnf
  repeat' (first| intro g| refine wi (av he rfl) ?_| apply ca ig| refine st ?_| refine br ?_ ?_<;>intro hc| rfl) <;>conv=>whnf
  have e1: (⟨gW,8,true,false,some ((m.ways.map Way.v).set (i:Int).toNat (.agg [vi e.id,.lit 2 (e.line.map Pt.v),vi e.level,.str e.cls,.str e.name,.bool e.yC,vi e.weight,vi e.bB]))⟩:Obj)=⟨gW,8,true,false,some (m.ways.map Way.v)⟩:=by rw[hW he]
  exact aK.mk (i+1) om ae0 (by(refine⟨?_,?_⟩ <;>repeat' (first| exact True.intro| refine And.intro (e1) ?_| refine ai ?_| refine And.intro ?_ ?_)))
 obtain rfl:i=m.ways.length:=ae0
 conv=>whnf
 repeat' (first| intro g| refine wi (gZ rfl) ?_| refine st ?_| refine br ?_ ?_<;>intro hc| rfl) <;>conv=>whnf
theorem KF {l:List Place} {i:Nat} (hi:i<l.length) (h:l.length< 1000000):Ev E 18 [.msl 7 (l.map Place.v) 0 l.length,ar i,vi (IntKind.i64.wrap ((i:Int)+1))] ⟨.sl 0 0 0 (l.length - 1),[(0,(l.eraseIdx i).map Place.v++[(Place.mk 0 0 0 [] [] 0 0).v])]⟩:=by
 have hw:IntKind.i64.wrap ((i:Int)+1)=((i+1:Nat):Int):=wt
 rw[hw]
 refine Ev.aI rfl rfl rfl ?_
 have CK:aF (l.map Place.v) (0+((i+1:Nat):Int).toNat) (l.length - ((i+1:Nat):Int).toNat)=(l.drop (i+1)).map Place.v:=by
  rw[fX]
  congr 1
  rw[List.take_of_length_le afU]
  simp
 conv=>whnf
 repeat' (first| intro g| refine nd (by first| ((and_intros<;>first| rfl| exact bq (bq (Place.aV _) (Place.aV _)) (bR rfl) | exact fZ (bq (bq (Place.aV _) (Place.aV _)) (bR rfl)) | (simp only[overwrite,aF,List.length_map,List.length_append,agb,agi,agz,agG];omega) | omega)) | fail) ?_| refine wi CK ?_| refine st ?_| refine br ?_ ?_<;>intro hc| rfl) <;>conv=>whnf
 obtain⟨A,x,B,rfl,hA⟩: ∃A x B,l=A++x::B∧A.length=i:=⟨l.take i,l[i],l.drop (i+1),afU,by simp;omega⟩
 have e1: (A++x::B).drop (i+1)=B:=by
  rw[←hA];simp[ahB]
 have e2: (A++x::B).eraseIdx i=A++B:=by
  rw[←hA];simp[ahl]
 have e3: ((i:Int).toNat - 0+((B).map Place.v).length)=A.length+B.length:=by simp;omega
 rw[e1,e2,e3]
 have e4: ((A.length+B.length:Nat):Int).toNat=A.length+B.length:=ae0
 have e5: (((A++x::B).length:Nat):Int).toNat - (A.length+B.length)=1:=by simp;omega
 have e6: (A++x::B).length - 1=A.length+B.length:=afU
 rw[e4,e5,e6]
 subst hA
 show (⟨V.sl 0 0 0 _,[(0,_)]⟩:eL)=_
 congr 3
 simp[overwrite,List.take_append,ahB]
 rw[List.take_of_length_le afU,agn (by simp;omega),agn (by simp;omega),agn (by simp;omega),agn (by simp;omega)]
 rfl
def vk (a b:Place):Place:={b with weight:=if 255 <jV (b.weight+a.weight) then 255 else jV (b.weight+a.weight),name:=TY b.name a.name}
def n9 (ps:List Place) (place fh:Int):List Place:=
 match ps[(fB ps place).toNat]?,ps[(fB ps fh).toNat]? with
 | some a,some b=> (ps.set (fB ps fh).toNat (vk a b)).eraseIdx (fB ps place).toNat
 | _,_=> []
def aG.zero:aG:=⟨[],[],[],[]⟩
theorem NJ {m:aG} (h:m.Fit) (place fh:Int):Ev E 7 [m.v,vi place,vi fh] ⟨if oT m.aA place fh=0 then
   .tuple [.agg [.own 4 (m.az.map Edge.v),.own 5 (m.al.map aX.v),.own 8 (m.ways.map Way.v),.own 7 ((n9 m.aA place fh).map Place.v)],vi 0]
  else .tuple [aG.zero.v,vi (oT m.aA place fh)],[]⟩:=by
 have Hq:=CI h.p place fh
 have TZ:=tH h.p place fh
 by_cases il:oT m.aA place fh=0
 case neg=>
  rw[if_neg il]
  refine Ev.aI rfl rfl rfl ?_
  exact dr
 rw[if_pos il]
 rw[il] at Hq
 rcases jw m.aA place with h1| ⟨i,a,h1,ha,hia⟩
 ·exact absurd il (by simp[oT,h1])
 rcases jw m.aA fh with h2| ⟨k,b,h2,hb,ZP⟩
 ·exact absurd il (by simp[oT,h2])
 have ad7:=KE h
 rw[h1,h2] at TZ
 have GQ:i<m.aA.length:=(af0.1 ha).1
 have U0:k<m.aA.length:=(af0.1 hb).1
 have EC:i≠k:=by
  intro e;subst e
  rw[ha] at hb;injection hb with hb;subst hb
  have:Et place fh a a=1:=by simp[Et,←hia,←ZP]
  simp[oT,h1,h2,ha,this] at il
 have hp:=h.p
 refine Ev.aI rfl rfl rfl ?_
 have CL: ∀v1,Ev E 18 [.msl 7 (((m.aA.map Place.v).set (k:Int).toNat v1).set (k:Int).toNat (vk a b).v) 0 (m.aA.map Place.v).length,ar i,vi (IntKind.i64.wrap ((i:Int)+1))] ⟨.sl 0 0 0 (m.aA.length - 1),[(0,((m.aA.set k (vk a b)).eraseIdx i).map Place.v++[(Place.mk 0 0 0 [] [] 0 0).v])]⟩:=by
  intro v1
  have:=KF (l:=m.aA.set k (vk a b)) (i:=i) (by simpa using GQ) (by simpa using hp)
  rw[List.set_set,←ag0]
  simpa using this
 have hle:m.aA.length - 1=((m.aA.set k (vk a b)).eraseIdx i).length:=by simp[agV,GQ]
 have Aw:n9 m.aA place fh=(m.aA.set k (vk a b)).eraseIdx i:=by simp[n9,h1,h2,ha,hb]
 rw[Aw]
 conv=>whnf
 repeat' (first| intro g| refine wi (av ha rfl) ?_| refine wi (av hb rfl) ?_| refine wi (kD (av hb rfl)) ?_| refine wi (kD (kD (av hb rfl))) ?_| refine wi (qB hle) ?_| refine wi (iW afU) ?_| apply ca Hq| apply ca TZ| apply ca ad7| apply ca (NI _ _) | apply ca (CL _) | refine st ?_| refine br ?_ ?_<;>intro hc| rfl) <;>conv=>whnf
 all_goals trace_state
end Go.AM
namespace Go.AM
def NK (p:Pt) (lvl:Int):V:= .agg [vi p.x,vi p.y,vi lvl]
theorem yJ (p:Pt) (lvl:Int):bK (NK p lvl)=true:=rfl
structure Xo (w:Way) (p q:Pt):Prop where
 pos:0 <w.line.length
 lt:w.line.length< 1000
 first:w.line[0]? =some p
 last:w.line[w.line.length - 1]? =some q
theorem Xo.ex {w:Way} (h0:0 <w.line.length) (h1:w.line.length< 1000): ∃p q,Xo w p q:=
 ⟨_,_,h0,h1,af3 ae0,af3 ae0⟩
theorem yK {w:Way} {p q:Pt} (h:Xo w p q):Ev E 695 [w.v] ⟨.own 3 [NK p w.level,NK q w.level],[]⟩:=by
 obtain⟨h0,h1,h2,h3⟩:=h
 have hw:IntKind.i64.wrap (((w.line.map Pt.v).length:Int) - 1)=((w.line.length - 1:Nat):Int):=by rw[List.length_map,wrap64 ae0 ae0];omega
 have hq: (w.line.map Pt.v)[(IntKind.i64.wrap (((w.line.map Pt.v).length:Int) - 1)).toNat]? =some q.v:=by rw[hw,ahf];exact av h3 rfl
 have hn:0≤IntKind.i64.wrap (((w.line.map Pt.v).length:Int) - 1):=by rw[hw];omega
 clear hw
 refine Ev.aI rfl rfl rfl ?_
 conv=>whnf
 repeat' (first| refine mZ.mk ⟨hn,rfl⟩ ?_| intro g| refine wi (av h2 rfl) ?_| refine wi hq ?_| refine st ?_| refine br ?_ ?_<;>intro hc| rfl) <;>conv=>whnf
end Go.AM
namespace Go.AM
theorem ZR {α:Type} (f:Nat→α) (t:Nat) (v:α):cU f t v t=v:=by simp[cU]
theorem Vg {α:Type} (f:Nat→α) {t n:Nat} (v:α) (h:n≠t):cU f t v n=f n:=by simp[cU,h]
def Hr (i:Nat) (g:Nat) (e:List Int):V:= .sl (16001488+16*i) g 0 e.length
def ee:Nat→List (Nat×List Int)→List V
 | _,[]=> []
 | i,p::l=>Hr i p.1 p.2::ee (i+1) l
def RN (p:Nat×List Int):Obj:=⟨p.1,1,true,false,some (p.2.map vi)⟩
def rC:Nat→List (Nat×List Int)→List (Nat×Obj)
 | _,[]=> []
 | i,p::l=> (16001488+16*i,RN p)::rC (i+1) l
theorem kS: ∀ (i:Nat) (l:List (Nat×List Int)),(ee i l).length=l.length
 | _,[]=>rfl
 | i,_::l=>by simp[ee,kS (i+1) l]
theorem A9: ∀ (i:Nat) (l:List (Nat×List Int)) (p:Nat×List Int),ee i (l++[p])=ee i l++[Hr (i+l.length) p.1 p.2]
 | i,[],p=>rfl
 | i,q::l,p=>by
   have:i+1+l.length=i+(l.length+1):=ae0
   simp[ee,A9 (i+1) l p,this]
theorem qG: ∀ {i:Nat} {l:List (Nat×List Int)} {k:Nat} {p:Nat×List Int},l[k]? =some p→(ee i l)[k]? =some (Hr (i+k) p.1 p.2)
 | i,[],k,p,h=>by simp at h
 | i,q::l,0,p,h=>by simp at h;subst h;rfl
 | i,q::l,k+1,p,h=>by
   have:=qG (i:=i+1) (l:=l) (k:=k) (p:=p) (by simpa using h)
   simp only[ee,ahb,this]
   rw[show i+1+k=i+(k+1) from by omega]
theorem jX: ∀ {i:Nat} {l:List (Nat×List Int)} {k:Nat} {p:Nat×List Int},l[k]? =some p→lk (rC i l) (16001488+16*(i+k))=some (RN p)
 | i,[],k,p,h=>by simp at h
 | i,q::l,0,p,h=>by simp at h;subst h;simp[rC,eP]
 | i,q::l,k+1,p,h=>by
   have:=jX (i:=i+1) (l:=l) (k:=k) (p:=p) (by simpa using h)
   rw[rC,eP,if_neg (by simp only;omega),show i+(k+1)=i+1+k from by omega]
   exact this
theorem pt {α:Type} {i n:Nat} {o:α} {l:List (Nat×α)} (h:n< 16001488):lk ((16001488+16*i,o)::l) n=lk l n:=by
 rw[eP,if_neg (by simp only;omega)]
theorem mQ {α:Type} {k i:Nat} {o:α} {l:List (Nat×α)} (h:k< 16001488):lk ((k,o)::l) (16001488+16*i)=lk l (16001488+16*i):=by
 rw[eP,if_neg (by simp only;omega)]
theorem fi {α:Type} {k:Nat} {o:α} {l:List (Nat×α)}:lk ((k,o)::l) k=some o:=by
 rw[eP,if_pos rfl]
theorem gK {α:Type} {p:Nat×α} {l m:List (Nat×α)} (h:lk m p.1=some p.2) (k:xb l m):xb (p::l) m:=
 ⟨by rw[h],k⟩
theorem pw {M:List (Nat×Obj)}: ∀ {i:Nat} {l:List (Nat×List Int)},(∀k p,l[k]? =some p→lk M (16001488+16*(i+k))=some (RN p))→xb (rC i l) M
 | _,[],_=>trivial
 | i,p::l,h=>by
   refine gK (h 0 p rfl) (pw fun k q hq=> ?_)
   rw[show i+1+k=i+(k+1) from by omega]
   exact h (k+1) q (by simpa using hq)
theorem NL {α:Type} {k n:Nat} {o:α} {l:List (Nat×α)} (h:k≠n):lk ((k,o)::l) n=lk l n:=by
 rw[eP,if_neg h]
theorem yL {α:Type} {k n:Nat} {o:α} {l:List (Nat×α)} (h:Nat.beq k n=false):lk ((k,o)::l) n=lk l n:=by
 simp only[lk,h,cond_false]
theorem NM {E:Env} {t:Nat} {o:Obj} {k:Obj→bD} {S:SS} {Q:KK} (h:lk S.O t=some o) (hk:fb E (k o) S fun v S' r w=>Q v S' (.o t::r) w):fb E (.bP t k) S Q:=by
 simp only[fb,h]
 exact hk
theorem M9.any {E:Env} {a:Act} {S:SS} {Q:KK} (h: ∀σ,S.On σ→GY E a σ fun v σ'=> ∃S',S'.On σ'∧ ∀r w,Q v S' r w):M9 E a S Q:=
 ⟨fun σ ho=>by
   obtain⟨n,v,σ',h1,S',h2,h3⟩:=h σ ho
   exact⟨n,v,σ',h1,S',h2,h3 _ _⟩⟩
theorem vl: ∀ {i:Nat} {l:List (Nat×List Int)} {k g:Nat} {y:List Int},ee i (l.set k (g,y))=(ee i l).set k (.sl (16001488+16*(i+k)) g 0 y.length)
 | _,[],_,_,_=>rfl
 | i,p::l,0,g,y=>rfl
 | i,p::l,k+1,g,y=>by
   simp only[List.set_cons_succ,ee]
   rw[vl (i:=i+1),show i+1+k=i+(k+1) from by omega]
theorem tM {α:Type}: ∀ {l:List α} {k:Nat} {x:α},l[k]? =some x→l.set k x=l
 | [],_,_,h=>by simp at h
 | y::l,0,x,h=>by simp at h;subst h;rfl
 | y::l,k+1,x,h=>by simp only[List.set_cons_succ];rw[tM (by simpa using h)]
def KG (p:Nat×List Int):V:= .lit 1 (p.2.map vi)
theorem Hs: ∀ {i:Nat} {l:List (Nat×List Int)},V.ak (ee i l)=true→l=[]
 | _,[],_=>rfl
 | i,p::l,h=>by
   simp only[ee,V.ak,af2] at h
   have:=h.1
   simp[Hr,V.au] at this
def NN (O O':Nat→Obj):Prop:=(∀r,r< 16000000→O' r=O r)∧ ∀r,(O' r).gen=(O r).gen∧(O' r).sz=(O r).sz∧(O' r).arr=(O r).arr∧(O' r).es=(O r).es
theorem NN.refl (O:Nat→Obj):NN O O:=⟨fun _ _=>rfl,fun _=> ⟨rfl,rfl,rfl,rfl⟩⟩
theorem NN.trans {a b c:Nat→Obj} (h:NN a b) (k:NN b c):NN a c:=
 ⟨fun r hr=> (k.1 r hr).trans (h.1 r hr),fun r=> ⟨(k.2 r).1.trans (h.2 r).1,(k.2 r).2.1.trans (h.2 r).2.1,(k.2 r).2.2.1.trans (h.2 r).2.2.1,(k.2 r).2.2.2.trans (h.2 r).2.2.2⟩⟩
theorem Jt {T:Nat→V} {Q:V→St→Prop}: ∀ {H:List (Nat×List Int)} {i:Nat} {O:Nat→Obj} {k:List V→Act},
   (∀j p,H[j]? =some p→(O (16001488+16*(i+j))).gen=p.1∧(O (16001488+16*(i+j))).sz=1∧(O (16001488+16*(i+j))).arr=true∧(O (16001488+16*(i+j))).es=some (p.2.map vi))→
   (∀O',NN O O'→GY E (k (H.map KG)) ⟨T,O'⟩ Q)→GY E (mM.go (ee i H) k) ⟨T,O⟩ Q
 | [],i,O,k,_,hk=>by simp only[ee,mM.go];exact hk O (NN.refl O)
 | p::H,i,O,k,h,hk=>by
   obtain⟨h1,h2,h3,h4⟩:=h 0 p rfl
   rw[ahk] at h1 h2 h3 h4
   have hp:V.au (Hr i p.1 p.2)=false:=rfl
   have hw:aF (p.2.map vi) 0 p.2.length=p.2.map vi:=iW afU
   simp only[ee,mM.go]
   unfold A0
   rw[hp]
   simp only[aga,if_false,Hr,iP]
   rw[ya]
   simp only[h4]
   rw[if_pos ⟨h1,h3,afU,by rw[hw];exact AM.aV (fun _=>rfl) _⟩,D5,h2,hw]
   refine Jt (i:=i+1) (fun j q hq=> ?_) fun O' hO'=> ?_
   ·have:=h (j+1) q (by simpa using hq)
    rw[show i+(j+1)=i+1+j from by omega] at this
    have cF:16001488+16*(i+1+j)≠16001488+16*i:=ae0
    simp only[Vg _ _ cF]
    exact this
   ·refine hk O' (NN.trans ⟨fun r' vn=> ?_,fun r'=> ?_⟩ hO')
    ·show cU O _ _ r'=_
     rw[Vg _ _ ae0]
    ·show (cU O _ _ r').gen=_∧_
     by_cases e:r'=16001488+16*i
     ·subst e;simp[ZR,h2,h4]
     ·simp[Vg _ _ e]
theorem NO {T:List (Nat×V)} {Q:KK} {g n:Nat} {H:List (Nat×List Int)}
   (hq: ∀r w,Q (.sl 49 g 0 n) ⟨T,[(49,⟨g,1,true,false,some (H.map KG)⟩)]⟩ r w):M9 E (tf (.sl 49 g 0 n)) ⟨T,(49,⟨g,1,true,false,some (ee 0 H)⟩)::rC 0 H⟩ Q:=by
 refine M9.any fun σ ho=> ?_
 have e1:σ.O 49=_:=ho.2 49 _ fi
 have dg: ∀j p,H[j]? =some p→(σ.O (16001488+16*(0+j))).gen=p.1∧(σ.O (16001488+16*(0+j))).sz=1∧(σ.O (16001488+16*(0+j))).arr=true∧(σ.O (16001488+16*(0+j))).es=some (p.2.map vi):=fun j p hp=>by
   have:=ho.2 (16001488+16*(0+j)) (RN p) ((mQ afV).trans (jX hp))
   rw[this];exact⟨rfl,rfl,rfl,rfl⟩
 unfold tf
 simp only
 rw[ya,e1]
 simp only[if_true]
 have fin: ∀O',NN σ.O O'→GY E (.bP 49 fun o'=>if o'.gen=g∧o'.es.isSome=true∧(H.map KG).all (aU · 1)=true then .bM 49 {o' with es:=some (H.map KG)} (.done (.sl 49 g 0 n)) else .fail) ⟨σ.T,O'⟩ fun v σ'=> ∃S',S'.On σ'∧ ∀r w,Q v S' r w:=fun O' hf=>by
   have e3:O' 49=_:=(hf.1 49 afV).trans e1
   rw[ya]
   simp only[e3,Option.isSome_some]
   rw[if_pos ⟨trivial,trivial,by rw[List.all_map,af5];exact fun _ _=>rfl⟩,D5,MT]
   refine⟨⟨T,[(49,⟨g,1,true,false,some (H.map KG)⟩)]⟩,⟨fun t v hv=>ho.1 t v hv,fun r o hr=> ?_⟩,hq⟩
   show cU O' 49 _ r=o
   rw[eP] at hr
   by_cases e:49=r
   ·rw[if_pos e] at hr
    injection hr with hr
    subst e
    rw[ZR];exact hr
   ·rw[if_neg e] at hr
    simp[lk] at hr
 unfold mM
 cases hp:V.ak (ee 0 H) with
 | true=>
   have:=Hs hp
   subst this
   rw[if_pos rfl]
   exact fin σ.O (NN.refl _)
 | false=>
   rw[if_neg afU]
   exact Jt (i:=0) dg fin
end Go.AM
namespace Go.AM
end Go.AM
