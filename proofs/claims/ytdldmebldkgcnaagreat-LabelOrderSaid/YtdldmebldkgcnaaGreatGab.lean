/- Texts of the proof. -/
import Derived.Test.YtdldmebldkgcnaaGreatGaa
import Derived.Test.YtdldmebldkgcnaaGreatOpsC
set_option maxRecDepth 20000
set_option maxHeartbeats 4000000
set_option linter.unusedSimpArgs false
set_option linter.unusedVariables false
namespace Go.AM
open Classical
theorem EU {x:V} (h:bM x=true): ∃a b c,x= .agg [.int .i64 a,.int .i64 b,.int .i64 c]:=by
 unfold bM at h
 split at h
 ·exact⟨_,_,_,rfl⟩
 ·simp at h
theorem ky {x y:V} (hx:bM x=true) (hy:bM y=true):du [1,1,1] x y=some (decide (x=y)):=by
 obtain⟨a,b,c,rfl⟩:=EU hx
 obtain⟨p,q,r,rfl⟩:=EU hy
 simp only[du,cX,Jj,if_true,ajy,aiT,V.agg.injEq,akC,V.int.injEq,true_and,and_true]
 rw[akf]
 simp
theorem L8 {e:V} (h:jf e=true): ∃k v,e= .tuple [k,v]∧bM k=true∧bM v=true:=by
 unfold jf at h
 split at h
 ·rename_i k v
  simp only[Bool.and_eq_true] at h
  exact⟨k,v,rfl,h.1,h.2⟩
 ·simp at h
noncomputable def yX (es:List V) (x:V):Option V:=(cM [1,1,1] x es).getD none
theorem mm {k v x:V} {es:List V} (hk:bM k=true) (hx:bM x=true):yX (.tuple [k,v]::es) x=if x=k then some v else yX es x:=by
 unfold yX
 simp only[cM,ky hx hk]
 by_cases e:x=k
 ·rw[if_pos e,decide_eq_true e];rfl
 ·rw[if_neg e,decide_eq_false e]
theorem GM {x:V} (hx:bM x=true): ∀ {es:List V},es.all jf=true→cM [1,1,1] x es=some (yX es x)
 | [],_=>rfl
 | e::es,h=>by
   simp only[aja,Bool.and_eq_true] at h
   obtain⟨k,v,rfl,hk,hv⟩:=L8 h.1
   rw[mm hk hx]
   simp only[cM,ky hx hk]
   by_cases e:x=k
   ·rw[if_pos e,decide_eq_true e]
   ·rw[if_neg e,decide_eq_false e]
    exact GM hx h.2
theorem qh {x y:V} (hx:bM x=true): ∀ {es:List V},es.all jf=true→yX es x=some y→bM y=true
 | [],_,h=>by simp[yX,cM] at h
 | e::es,hs,h=>by
   simp only[aja,Bool.and_eq_true] at hs
   obtain⟨k,v,rfl,hk,hv⟩:=L8 hs.1
   rw[mm hk hx] at h
   by_cases e:x=k
   ·rw[if_pos e] at h;injection h with h;subst h;exact hv
   ·rw[if_neg e] at h;exact qh hx hs.2 h
theorem EV {x r:V} (hx:bM x=true) (hr:bM r=true): ∀ {es:List V},es.all jf=true→ ∃es',dP [1,1,1] x r es=some es'∧es'.all jf=true∧ ∀z,bM z=true→yX es' z=if z=x then some r else yX es z
 | [],_=> ⟨_,rfl,by simp[jf,hx,hr],fun z hz=>by rw[mm hx hz]⟩
 | e::es,hs=>by
   simp only[aja,Bool.and_eq_true] at hs
   obtain⟨k,v,rfl,hk,hv⟩:=L8 hs.1
   simp only[dP,ky hx hk]
   by_cases e:x=k
   ·subst e
    rw[decide_eq_true rfl]
    refine⟨_,rfl,by simp only[aja,hs.2,ajy];simp[jf,hx,hr],fun z hz=> ?_⟩
    rw[mm hx hz,mm hx hz]
    split<;>rfl
   ·rw[decide_eq_false e]
    obtain⟨es',h1,h2,h3⟩:=EV hx hr hs.2
    refine⟨.tuple [k,v]::es',by simp[h1],by simp only[aja,h2,ajy];exact hs.1,fun z hz=> ?_⟩
    rw[mm hk hz,mm hk hz,h3 z hz]
    by_cases e1:z=k
    ·subst e1
     rw[if_pos rfl,if_pos rfl,if_neg (fun e'=>e e'.symm)]
    ·rw[if_neg e1,if_neg e1]
noncomputable def ei:Nat→List V→V→Option V
 | 0,_,_=>none
 | n+1,es,x=>match yX es x with
   | none=>some x
   | some y=>if y=x then some x else ei n es y
def Ux (es:List V) (r:V):Prop:=yX es r=none∨yX es r=some r
theorem iE {n:Nat} {es:List V} {r:V} (h:Ux es r):ei (n+1) es r=some r:=by
 rcases h with h| h
 ·simp[ei,h]
 ·simp[ei,h]
theorem fR {n:Nat} {es:List V} {x y:V} (h:yX es x=some y) (cL:y≠x):ei (n+1) es x=ei n es y:=by simp[ei,h,cL]
theorem Al (es:List V) (x:V):Ux es x∨ ∃y,yX es x=some y∧y≠x:=by
 rcases e:yX es x with _| y
 ·exact .inl (.inl e)
 ·by_cases h:y=x
  ·subst h;exact .inl (.inr e)
  ·exact .inr ⟨y,rfl,h⟩
theorem lO {es:List V} (hs:es.all jf=true): ∀ {n:Nat} {x r:V},bM x=true→ei n es x=some r→Ux es r∧bM r=true
 | 0,_,_,_,h=>by simp[ei] at h
 | n+1,x,r,hx,h=>by
   rcases Al es x with ht| ⟨y,h1,h2⟩
   ·rw[iE ht] at h;injection h with h;subst h;exact⟨ht,hx⟩
   ·rw[fR h1 h2] at h;exact lO hs (qh hx hs h1) h
theorem Am {es:List V}: ∀ {n:Nat} {x r:V},ei n es x=some r→ei (n+1) es x=some r
 | 0,_,_,h=>by simp[ei] at h
 | n+1,x,r,h=>by
   rcases Al es x with ht| ⟨y,h1,h2⟩
   ·rw[iE ht] at h ⊢;exact h
   ·rw[fR h1 h2] at h ⊢;exact Am h
theorem oi {es:List V} {n m:Nat} {x r:V} (Qq:n≤m) (h:ei n es x=some r):ei m es x=some r:=by
 induction Qq with
 | refl=>exact h
 | step _ ih=>exact Am ih
theorem QG {es:List V} {n m:Nat} {x r q:V} (h:ei n es x=some r) (k:ei m es x=some q):r=q:=by
 have h1:=oi (ajv n m) h
 rw[oi (ajj n m) k] at h1
 injection h1 with h1;exact h1.symm
theorem An {es Ct:List V} {x r:V} {k:Nat} (hx:bM x=true) (hs:es.all jf=true) (hp:ei k es x=some r) (hf: ∀z,bM z=true→yX Ct z=if z=x then some r else yX es z): ∀ {m:Nat} {z q:V},bM z=true→ei m es z=some q→ei m Ct z=some q
 | 0,_,_,_,h=>by simp[ei] at h
 | m+1,z,q,hz,h=>by
   obtain⟨aO,hsr⟩:=lO hs hx hp
   by_cases e:z=x
   ·subst e
    obtain rfl:=QG hp h
    have h2:yX Ct z=some r:=by rw[hf z hz,if_pos rfl]
    by_cases e2:r=z
    ·subst e2;exact iE (.inr h2)
    ·rw[fR h2 e2]
     have ht2:Ux Ct r:=by unfold Ux;rw[hf r hsr,if_neg e2];exact aO
     rcases Al es z with ht| ⟨y,h3,h4⟩
     ·rw[iE ht] at h;injection h with h;exact absurd h.symm e2
     ·rw[fR h3 h4] at h
      cases m with
      | zero=>simp[ei] at h
      | succ m=>exact iE ht2
   ·have h2:yX Ct z=yX es z:=by rw[hf z hz,if_neg e]
    rcases Al es z with ht| ⟨y,h3,h4⟩
    ·rw[iE ht] at h
     injection h with h;subst h
     exact iE (by unfold Ux;rw[h2];exact ht)
    ·rw[fR h3 h4] at h
     rw[fR (h2.trans h3) h4]
     exact An hx hs hp hf (qh hz hs h3) h
theorem o6: ∀ {n:Nat} {es:List V} {x r:V},bM x=true→es.all jf=true→ei n es x=some r→ ∃es',jO n es x=some (r,es')∧es'.all jf=true∧ ∀m z q,bM z=true→ei m es z=some q→ei m es' z=some q
 | 0,_,_,_,_,_,h=>by simp[ei] at h
 | n+1,es,x,r,hx,hs,h=>by
   have hp:=h
   unfold jO
   rw[GM hx hs]
   rcases e:yX es x with _| y
   ·simp only[ei,e] at h
    injection h with h;subst h
    exact⟨es,rfl,hs,fun _ _ _ _ h=>h⟩
   ·have hy:=qh hx hs e
    simp only[ky hy hx]
    by_cases e2:y=x
    ·simp only[decide_eq_true e2]
     simp only[ei,e,e2,if_true] at h
     injection h with h;subst h
     exact⟨es,rfl,hs,fun _ _ _ _ h=>h⟩
    ·simp only[decide_eq_false e2]
     rw[fR e e2] at h
     obtain⟨Uv,h1,h2,h3⟩:=o6 hy hs h
     rw[h1]
     obtain⟨wH,pT⟩:=lO hs hy h
     obtain⟨Ct,k1,k2,k3⟩:=EV hx pT h2
     refine⟨Ct,by simp[k1],k2,fun m z q hz hq=> ?_⟩
     exact An hx h2 (h3 _ _ _ hx hp) k3 hz (h3 _ _ _ hz hq)
structure UF (D:Nat) (es:List V):Prop where
 se:es.all jf=true
 all: ∀z,bM z=true→ ∃q,ei D es z=some q
theorem UF.nil:UF 1 []:=⟨rfl,fun z _=> ⟨z,rfl⟩⟩
theorem UF.root {D:Nat} {es:List V} (h:UF D es) (hD:D≤1000000) {x:V} (hx:bM x=true): ∃r es',C3 es [x]=some (r,es')∧bM r=true∧UF D es':=by
 obtain⟨q,hq⟩:=h.all x hx
 obtain⟨es',h1,h2,h3⟩:=o6 hx h.se (oi hD hq)
 refine⟨q,es',by simp only[C3,hx,h.se,ajD,if_true];exact h1,(lO h.se hx hq).2,h2,fun z hz=> ?_⟩
 obtain⟨p,hp⟩:=h.all z hz
 exact⟨p,h3 _ _ _ hz hp⟩
theorem Dd {es es':List V} {ra rb:V} (hs:es.all jf=true) (ha:Ux es ra) (hb:Ux es rb) (hsb:bM rb=true) (hf: ∀z,bM z=true→yX es' z=if z=ra then some rb else yX es z): ∀ {m:Nat} {z q:V},bM z=true→ei m es z=some q→ ∃q',ei (m+1) es' z=some q'
 | 0,_,_,_,h=>by simp[ei] at h
 | m+1,z,q,hz,h=>by
   by_cases e:z=ra
   ·subst e
    have h2:yX es' z=some rb:=by rw[hf z hz,if_pos rfl]
    by_cases e2:rb=z
    ·subst e2;exact⟨_,iE (.inr h2)⟩
    ·rw[fR h2 e2]
     exact⟨_,iE (by unfold Ux;rw[hf rb hsb,if_neg e2];exact hb)⟩
   ·have h2:yX es' z=yX es z:=by rw[hf z hz,if_neg e]
    rcases Al es z with ht| ⟨y,h3,h4⟩
    ·exact⟨_,iE (by unfold Ux;rw[h2];exact ht)⟩
    ·rw[fR h3 h4] at h
     rw[fR (h2.trans h3) h4]
     exact Dd hs ha hb hsb hf (qh hz hs h3) h
theorem UF.join {D:Nat} {es:List V} (h:UF D es) (hD:D≤1000000) {a b:V} (ha:bM a=true) (hb:bM b=true): ∃es',C4 es [a,b]=some (.tuple [],es')∧UF (D+1) es':=by
 obtain⟨ra,YA⟩:=h.all a ha
 obtain⟨Uv,h1,h2,h3⟩:=o6 ha h.se (oi hD YA)
 obtain⟨rb,hrb⟩:=h.all b hb
 have acp:=h3 _ _ _ hb hrb
 obtain⟨Ct,k1,k2,k3⟩:=o6 hb h2 (oi hD acp)
 obtain⟨tb,sb⟩:=lO k2 hb (k3 _ _ _ hb acp)
 obtain⟨ta,sa⟩:=lO k2 ha (k3 _ _ _ ha (h3 _ _ _ ha YA))
 obtain⟨es3,m1,m2,m3⟩:=EV sa sb k2
 refine⟨es3,?_,m2,fun z hz=> ?_⟩
 ·simp only[C4,ha,hb,h.se,ajD,if_true,h1,k1,m1];rfl
 ·obtain⟨q,hq⟩:=h.all z hz
  exact Dd k2 ta tb sb m3 hz (k3 _ _ _ hz (h3 _ _ _ hz hq))
def SI (n:Nat) (ae:List V):Prop:= ∀e ∈ ae,∃ (k:V) (j:Nat),e= .tuple [k,av j]∧bM k=true∧j<n
theorem SI.mono {n m:Nat} {ae:List V} (h:SI n ae) (Qq:n≤m):SI m ae:=fun e he=>by
 obtain⟨k,j,h1,h2,h3⟩:=h e he
 exact⟨k,j,h1,h2,abV⟩
theorem QH {n:Nat} {r:V} (hr:bM r=true): ∀ {ae:List V},SI n ae→(∃j,j<n∧dM [1,1,1] true (.int .i64 0) ae r= .done (.tuple [av j,.bool true]))∨dM [1,1,1] true (.int .i64 0) ae r= .done (.tuple [vi 0,.bool false])
 | [],_=> .inr rfl
 | e::ae,h=>by
   obtain⟨k,j,rfl,hk,hj⟩:=h e abW
   by_cases he:r=k
   ·left
    exact⟨j,hj,by simp only[dM,cM,ky hr hk,decide_eq_true he,if_true]⟩
   ·have:=QH hr (ae:=ae) (fun x hx=>h x (by simp[hx]))
    simpa only[dM,cM,ky hr hk,decide_eq_false he] using this
theorem QI {n j:Nat} {r:V} (hr:bM r=true) (hj:j<n): ∀ {ae:List V},SI n ae→ ∃Yz,dP [1,1,1] r (av j) ae=some Yz∧SI n Yz
 | [],_=> ⟨_,rfl,fun e he=> ⟨r,j,by simpa using he,hr,hj⟩⟩
 | e::ae,h=>by
   obtain⟨k,i,rfl,hk,hi⟩:=h e abW
   by_cases he:r=k
   ·refine⟨_,by simp only[dP,ky hr hk,decide_eq_true he];rfl,fun e' lD=> ?_⟩
    rcases ai0.1 lD with rfl| lD
    ·exact⟨r,j,rfl,hr,hj⟩
    ·exact h e' (by simp[lD])
   ·obtain⟨Yz,h1,h2⟩:=QI hr hj (ae:=ae) (fun x hx=>h x (by simp[hx]))
    refine⟨_,by simp only[dP,ky hr hk,decide_eq_false he,h1];rfl,fun e' lD=> ?_⟩
    rcases ai0.1 lD with rfl| lD
    ·exact⟨k,i,rfl,hk,hi⟩
    ·exact h2 e' lD
end Go.AM
namespace Go.AM
def gJ (ps:List Place) (id:Int):Int:=firstIdx (fun p=>decide (p.id=id)) ps
theorem QJ (p:Place) (id:Int):Ev E 34 [p.v,.eptr (vi id) 0] ⟨.bool (decide (p.id=id)),[]⟩:=by
 refine Ev.aD rfl rfl rfl ?_
 exact aiN
theorem u6 {l:List Place} {g:Nat} {caps:List V} (hc:V.al caps=true) {p:Place→Bool} (hlen:l.length< 4611686018427387904)
  (hp: ∀x,Ev E g (x.v::caps) ⟨.bool (p x),[]⟩) (hm:bz E g=[]):Ev E 33 [.lit 7 (l.map Place.v),.fn g caps] ⟨vi (firstIdx p l),[]⟩:=by
 exact oZ (a:=true) (fun _=>rfl) (fun _=>rfl) hc hlen hp hm
def GN (place fC:Int) (a b:Place):Int:=
 if place=fC∨a.cls≠b.cls∨b.weight<a.weight∨(a.weight=b.weight∧a.id<b.id) then 1
 else if a.bG≠b.bG then 25
 else if a.name≠[]∧b.name≠[]∧a.name≠b.name then 24
 else 0
def qj (ps:List Place) (place fC:Int):Int:=
 if 0≤gJ ps place∧0≤gJ ps fC then
  match ps[(gJ ps place).toNat]?,ps[(gJ ps fC).toNat]? with
  | some a,some b=>GN place fC a b
  | _,_=>0
 else 5
theorem jT (ps:List Place) (id:Int):gJ ps id= -1∨ ∃ (i:Nat) (x:Place),gJ ps id=(i:Int)∧ps[i]? =some x∧x.id=id:=by
 rcases cI (fun p:Place=>decide (p.id=id)) ps with h| ⟨i,x,h1,h2,h3⟩
 ·exact .inl h.1
 ·exact .inr ⟨i,x,h1,h2,by simpa using h3⟩
section
variable {m:aI} (hlen:m.az.length< 1000000)
include hlen
theorem L9 (id:Int):Ev E 19 [m.v,vi id] ⟨vi (gJ m.az id),[]⟩:=by
 refine Ev.aD rfl rfl rfl ?_
 conv=>whnf
 repeat' (first| intro g| refine ca (u6 rfl abV (fun x=>QJ x id) rfl) ?_| refine st ?_| refine br ?_ ?_<;>intro hc| rfl) <;>conv=>whnf
 all_goals rfl
theorem u7 (i k:Int):Ev E 15 [m.v,vi i,vi k] ⟨.tuple [vi (gJ m.az i),vi (gJ m.az k),.bool (decide (0≤gJ m.az i) &&decide (0≤gJ m.az k))],[]⟩:=by
 have h:=L9 hlen
 refine Ev.aD rfl rfl rfl ?_
 conv=>whnf
 repeat' (first| intro g| apply ca (h _) | refine st ?_| refine br ?_ ?_<;>intro hc| rfl) <;>conv=>whnf
 all_goals simp[hc]
theorem JT (place fC:Int):Ev E 8 [m.v,vi place,vi fC] ⟨vi (qj m.az place fC),[]⟩:=by
 have h:=u7 hlen place fC
 rcases jT m.az place with h1| ⟨i,a,h1,ha,hia⟩
 ·have r:qj m.az place fC=5:=by simp[qj,h1]
  rw[h1] at h;rw[r]
  refine Ev.aD rfl rfl rfl ?_
  conv=>whnf
  repeat' (first| intro g| apply ca h| refine st ?_| refine br ?_ ?_<;>intro hc| rfl) <;>conv=>whnf
  all_goals simp_all
 rcases jT m.az fC with h2| ⟨k,b,h2,hb,hkb⟩
 ·have r:qj m.az place fC=5:=by simp[qj,h2]
  rw[h2] at h;rw[r]
  refine Ev.aD rfl rfl rfl ?_
  conv=>whnf
  repeat' (first| intro g| apply ca h| refine st ?_| refine br ?_ ?_<;>intro hc| rfl) <;>conv=>whnf
  all_goals simp_all
 have r:qj m.az place fC=GN place fC a b:=by simp[qj,h1,h2,ha,hb]
 rw[h1,h2] at h
 rw[r]
 refine Ev.aD rfl rfl rfl ?_
 conv=>whnf
 repeat' (first| intro g| refine wi (aq ha rfl) ?_| refine wi (aq hb rfl) ?_| apply ca h| refine st ?_| refine br ?_ ?_<;>intro hc| rfl) <;>conv=>whnf
 all_goals (show (⟨vi _,[]⟩:eZ)=_;congr 2;unfold GN;first| (simp[*];done) | (simp[*];omega) | (repeat' split) <;>first| rfl| (exfalso;simp_all;done) | (exfalso;simp_all;omega))
end
section
variable {m:aI} (hlen:m.az.length< 1000000)
include hlen
end
end Go.AM
namespace Go.AM
theorem ql (x:Int):Ev E 36 [vi x] ⟨.bool false,[]⟩:=by
 refine Ev.aD rfl rfl rfl ?_
 conv=>whnf
 repeat' (first| intro g| refine st ?_| refine br ?_ ?_<;>intro hc| rfl) <;>conv=>whnf
 all_goals simp
def kM (x y:Int):Int:=if x<y then -1 else if y<x then 1 else 0
theorem dK (x y:Int):Ev E 23 [vi x,vi y] ⟨vi (kM x y),[]⟩:=by
 refine Ev.aD rfl rfl rfl ?_
 conv=>whnf
 repeat' (first| intro g| apply ca (ql x) | apply ca (ql y) | refine st ?_| refine br ?_ ?_<;>intro hc| rfl) <;>conv=>whnf
 all_goals simp[kM, *]
 all_goals omega
def Nq (a b:Int):Int:=if a=0 then b else a
theorem EW (a b:Int):Ev E 22 [.lit 1 [vi a,vi b]] ⟨vi (Nq a b),[]⟩:=by
 refine Ev.aD rfl rfl rfl ?_
 conv=>whnf
 repeat' (first| intro g| refine st ?_| refine br ?_ ?_<;>intro hc| rfl) <;>conv=>whnf
 refine aL.by (fun i:Nat=> ⟨[(3,vi 0),(6,.lit 1 [vi a,vi b]),(7,av 2),(8,av i)],[]⟩) (fun i=>i≤2∧(1≤i→a=0)∧(2≤i→b=0)) (fun i=>2 - i) 0 ?_ ?_ ?_
 ·exact su
 ·simp
 rintro i ⟨hi,h1,h2⟩
 rcases(by omega:i=0∨i=1∨i=2) with rfl| rfl| rfl
 ·conv=>whnf
  repeat' (first| intro g| refine st ?_| refine br ?_ ?_<;>intro hc| rfl) <;>conv=>whnf
  ·simp[Nq,hc]
  ·refine aK.mk (1) om ?_ su
   exact⟨abV,fun _=>by simpa using hc,fun h=>abV⟩
 ·have ha:=h1 abV
  conv=>whnf
  repeat' (first| intro g| refine st ?_| refine br ?_ ?_<;>intro hc| rfl) <;>conv=>whnf
  ·simp[Nq,ha]
  ·refine aK.mk (2) om ?_ su
   exact⟨abV,fun _=>ha,fun _=>by simpa using hc⟩
 ·have ha:=h1 abV
  have hb:=h2 abV
  conv=>whnf
  repeat' (first| intro g| refine st ?_| refine br ?_ ?_<;>intro hc| rfl) <;>conv=>whnf
  all_goals simp[Nq,ha,hb]
def IsSqrt (n s:Int):Prop:=0≤s∧s*s≤n∧n< (s+1)*(s+1)
theorem fe {a b:Int} (h0:0≤a) (h:a≤b):a*a≤b*b:=aka h h h0 abV
theorem IsSqrt.uniq {n s t:Int} (h:IsSqrt n s) (k:IsSqrt n t):s=t:=by
 obtain⟨h1,h2,h3⟩:=h
 obtain⟨k1,k2,k3⟩:=k
 rcases Int.lt_trichotomy s t with hl| hl| hl
 ·have:=fe (a:=s+1) (b:=t) abV abV;omega
 ·exact hl
 ·have:=fe (a:=t+1) (b:=s) abV abV;omega
open Classical in
noncomputable def jG (n:Int):Int:=if h: ∃s,IsSqrt n s then h.choose else 0
theorem kz {n s:Int} (h:IsSqrt n s):jG n=s:=by
 have hex: ∃s,IsSqrt n s:=⟨s,h⟩
 unfold jG;rw[dif_pos hex];exact hex.choose_spec.uniq h
theorem wW {n:Int} (h:n≤0):jG n=0:=by
 by_cases hz:n=0
 ·subst hz;exact kz ⟨abV,abV,abV⟩
 ·unfold jG;rw[dif_neg]
  rintro⟨s,h1,h2,h3⟩
  have:=ajE h1 h1
  omega
theorem qm {b r:Nat} (h:FloatKind.f64.format.sqrt b=some r):Ev E 41 [.float b] ⟨.float r,[]⟩:=by
 have Ao:Ev E 52 [.float b] ⟨.float r,[]⟩:=Ev.ext (by rw[ack];simp[C1,h])
 refine Ev.aD rfl rfl rfl ?_
 exact aiN
theorem vb {n:Int} (h1:n≤9223372036854775807):Ev E 27 [vi n] ⟨vi (jG n),[]⟩:=by
 by_cases h0:0 <n
 case neg=>
  rw[wW abV]
  refine Ev.aD rfl rfl rfl ?_
  conv=>whnf
  repeat' (first| intro g| refine st ?_| refine br ?_ ?_<;>intro hc| rfl) <;>conv=>whnf
  all_goals trivial
 obtain⟨r,m,hr,hm,Jk,Xj⟩:=GO h0 h1
 have e1:IntKind.i64.min≤m:=by simp[IntKind.min,IntKind.signed,IntKind.bits];omega
 have e2:m≤IntKind.i64.max:=by simp[IntKind.max,IntKind.signed,IntKind.bits];omega
 refine Ev.aD rfl rfl rfl ?_
 conv=>whnf
 repeat' (first| intro g| refine wi ((⟨hm,e1,e2⟩:_∧_∧_)) ?_| apply ca (qm hr) | refine st ?_| refine br ?_ ?_<;>intro hc| rfl) <;>conv=>whnf
 generalize hs0: (if 3037000499 <m then(3037000499:Int) else m)=s0
 have Ap:0≤s0∧s0≤3037000499:=by split at hs0<;>omega
 refine aL.by (fun s:Int=> ⟨[(0,vi n),(3,vi s)],[]⟩) (fun s=>0≤s∧s≤3037000499) (fun s=>s.toNat) s0 ?_ Ap ?_
 ·exact su
 rintro s ⟨iv,mn⟩
 have Ao:=fe iv mn
 have QK:0≤s*s:=ajE iv iv
 have hw:IntKind.i64.wrap (s*s)=s*s:=wrap64 abV abV
 conv=>whnf
 repeat' (first| intro g| refine st ?_| refine br ?_ ?_<;>intro hc| rfl) <;>conv=>whnf
 ·rw[hw] at hc
  have:0 <s:=by
   rcases Int.lt_or_le 0 s with h| h
   ·exact h
   · have:s=0:=abV
     subst this;omega
  refine aK.mk (s - 1) om ?_ su
  exact⟨abV,abV⟩
 rw[hw] at hc
 refine aL.by (fun s:Int=> ⟨[(0,vi n),(3,vi s)],[]⟩) (fun s=>0≤s∧s≤3037000499∧s*s≤n) (fun s=> (3037000499 - s).toNat) s ?_ ⟨iv,mn,abV⟩ ?_
 ·exact su
 clear hw Ao QK hc iv mn s
 rintro s ⟨iv,mn,hle⟩
 by_cases bl:s< 3037000499
 ·have Ao:=fe (a:=s+1) (b:=3037000499) abV abV
  have QK:0≤(s+1)*(s+1):=ajE abV abV
  have GL:IntKind.i64.wrap (s+1)=s+1:=wrap64 abV abV
  have hw:IntKind.i64.wrap ((s+1)*(s+1))=(s+1)*(s+1):=wrap64 abV abV
  conv=>whnf
  repeat' (first| intro g| refine st ?_| refine br ?_ ?_<;>intro hc| rfl) <;>conv=>whnf
  ·rw[GL,hw] at hc
   refine aK.mk (s+1) om ?_ su
   exact⟨abV,abV,hc⟩
  ·rw[GL,hw] at hc
   rw[kz ⟨iv,hle,abV⟩]
 ·conv=>whnf
  repeat' (first| intro g| refine st ?_| refine br ?_ ?_<;>intro hc| rfl) <;>conv=>whnf
  have:=fe (a:=3037000500) (b:=s+1) abV abV
  rw[kz ⟨iv,hle,abV⟩]
end Go.AM
namespace Go.AM
def sqV (ax ay bx b_y:Int):Int:=gC (gC (gC (ax - bx)*gC (ax - bx))+gC (gC (ay - b_y)*gC (ay - b_y)))
theorem Ma (n:Int):IntKind.i64.wrap n≤9223372036854775807:=by
 simp[IntKind.wrap,IntKind.bits,IntKind.signed]
 split<;>omega
theorem qn (a b:Pt):Ev E 37 [a.v,b.v] ⟨(Pt.mk (gC (a.x - b.x)) (gC (a.y - b.y))).v,[]⟩:=by
 refine Ev.aD rfl rfl rfl ?_
 exact aiN
theorem JU (a b:Pt):Ev E 38 [a.v,b.v] ⟨vi (gC (gC (a.x*b.x)+gC (a.y*b.y))),[]⟩:=by
 refine Ev.aD rfl rfl rfl ?_
 exact aiN
theorem wX (a b:Pt):Ev E 24 [a.v,b.v] ⟨vi (sqV a.x a.y b.x b.y),[]⟩:=by
 refine Ev.aD rfl rfl rfl ?_
 conv=>whnf
 repeat' (first| intro g| apply ca (qn a b) | apply ca (JU _ _) | refine st ?_| refine br ?_ ?_<;>intro hc| rfl) <;>conv=>whnf
def Place.at_ (p:Place):Pt:=⟨p.x,p.y⟩
def sqP (a b:Place):Int:=sqV a.x a.y b.x b.y
noncomputable def QL (a b:Place):Int:=gC ((jG (sqP a b)).tdiv 4)
noncomputable def mZ (ps:List Place) (place fC:Int):Int:=
 match ps[(gJ ps place).toNat]?,ps[(gJ ps fC).toNat]? with
 | some a,some b=>if 0≤gJ ps place∧0≤gJ ps fC then QL a b else 0
 | _,_=>0
section
variable {m:aI} (hlen:m.az.length< 1000000)
include hlen
theorem zp (place fC:Int):Ev E 12 [m.v,vi place,vi fC] ⟨vi (mZ m.az place fC),[]⟩:=by
 have h:=u7 hlen place fC
 rcases jT m.az place with h1| ⟨i,a,h1,ha,hia⟩
 ·have r:mZ m.az place fC=0:=by simp[mZ,h1];split<;>rfl
  rw[h1] at h;rw[r]
  refine Ev.aD rfl rfl rfl ?_
  conv=>whnf
  repeat' (first| intro g| apply ca h| refine st ?_| refine br ?_ ?_<;>intro hc| rfl) <;>conv=>whnf
  all_goals simp_all
 rcases jT m.az fC with h2| ⟨k,b,h2,hb,hkb⟩
 ·have r:mZ m.az place fC=0:=by simp[mZ,h2];split<;>rfl
  rw[h2] at h;rw[r]
  refine Ev.aD rfl rfl rfl ?_
  conv=>whnf
  repeat' (first| intro g| apply ca h| refine st ?_| refine br ?_ ?_<;>intro hc| rfl) <;>conv=>whnf
  all_goals simp_all
 have r:mZ m.az place fC=QL a b:=by simp[mZ,h1,h2,ha,hb]
 rw[h1,h2] at h
 rw[r]
 refine Ev.aD rfl rfl rfl ?_
 conv=>whnf
 repeat' (first| intro g| refine wi (aq ha rfl) ?_| refine wi (aq hb rfl) ?_| apply ca h| apply ca (wX a.at_ b.at_) | apply ca (vb (Ma _)) | refine st ?_| refine br ?_ ?_<;>intro hc| rfl) <;>conv=>whnf
 all_goals simp_all
end
def zr (p a b:Place):Int:=Nq (kM (sqP p a) (sqP p b)) (kM a.id b.id)
theorem JV (p a b:Place):Ev E 21 [a.v,b.v,.eptr p.v 0] ⟨vi (zr p a b),[]⟩:=by
 refine Ev.aD rfl rfl rfl ?_
 conv=>whnf
 repeat' (first| intro g| apply ca (wX p.at_ a.at_) | apply ca (wX p.at_ b.at_) | apply ca (dK _ _) | apply ca (EW _ _) | refine st ?_| refine br ?_ ?_<;>intro hc| rfl) <;>conv=>whnf
def GP {α:Type} (c:α→α→Int) (l:List α) (x:α):α:=l.foldl (fun m y=>if c y m< 0 then y else m) x
theorem JW {l:List Place} {x0:Place} (hlen:l.length< 1000000) {g':Nat} {caps:List V} (hc:V.al caps=true) (hm:bz E g'=[]) {c:Place→Place→Int}
  (hp: ∀a b,Ev E g' (a.v::b.v::caps) ⟨vi (c a b),[]⟩):Ev E 35 [.lit 7 ((x0::l).map Place.v),.fn g' caps] ⟨(GP c l x0).v,[]⟩:=by
 refine Ev.aD rfl rfl rfl ?_
 conv=>whnf
 repeat' (first| intro g| refine st ?_| refine br ?_ ?_<;>intro hc| rfl) <;>conv=>whnf
 rename_i g2
 refine aL.by (fun (p:Nat×Place)=> ⟨[(0,.lit 7 ((x0::l).map Place.v)),(1,.fn g' caps),(4,.ptr 80 g2 0 0),(5,.ptr 96 g 0 0),(6,av (p.1+1))],
   [(96,⟨g,7,false,false,some [p.2.v]⟩),(80,⟨g2,7,false,false,some [(Place.mk 0 0 0 [] [] 0 0).v]⟩)]⟩)
  (fun p=>p.1≤l.length∧p.2=GP c (l.take p.1) x0) (fun p=>l.length - p.1) (0,x0) ?_ ?_ ?_
 ·exact su
 ·simp[GP]
 rintro⟨i,y⟩ ⟨hi,hy⟩
 dsimp only at hi hy
 conv=>whnf
 repeat' (first| intro g| refine wi (aq (l:=x0::l) (aH (i:=i+1) (by simp only[ai5];omega)) rfl) ?_| refine sf (hp _ _) ?_| refine st ?_| refine br ?_ ?_<;>intro hc| rfl) <;>conv=>whnf
 ·have e: (x0::l)[i+1]'(by simp only[ai5];omega)=l[i]' abV:=rfl
  refine aK.mk (i+1,l[i]' abV) om ⟨om,?_⟩ su
  have:i<l.length:=abV
  rw[List.take_succ_eq_append_getElem this,GP,List.foldl_append,akd,List.foldl_nil]
  rw[e,hy] at hc
  exact(if_pos hc).symm
 ·have e: (x0::l)[i+1]'(by simp only[ai5];omega)=l[i]' abV:=rfl
  refine aK.mk (i+1,y) om ⟨om,?_⟩ su
  have:i<l.length:=abV
  rw[List.take_succ_eq_append_getElem this,GP,List.foldl_append,akd,List.foldl_nil]
  rw[e,hy] at hc
  rw[hy]
  exact(if_neg hc).symm
 ·obtain rfl:i=l.length:=abV
  rw[ajP] at hy
  subst hy;rfl
theorem Nr (p:Place):Ev E 20 [.lit 7 [],.fn 21 [.eptr p.v 0]] ⟨.tuple [(Place.mk 0 0 0 [] [] 0 0).v,.bool false],[]⟩:=by
 refine Ev.aD rfl rfl rfl ?_
 exact aiN
theorem QM (p:Place) {l:List Place} {x0:Place} (hlen:l.length< 1000000):Ev E 20 [.lit 7 ((x0::l).map Place.v),.fn 21 [.eptr p.v 0]] ⟨.tuple [(GP (zr p) l x0).v,.bool true],[]⟩:=by
 have h:=JW hlen (g':=21) (caps:=[.eptr p.v 0]) rfl rfl (fun a b=>JV p a b) (x0:=x0)
 refine Ev.aD rfl rfl rfl ?_
 exact aiN
end Go.AM
namespace Go.AM
theorem Aq {k g:Nat} {cf:List Int→List Int→Int} (hO:Go.Sort.SWO (Go.Proofs.ltOf cf)) (hX: ∀xs,E.ext k xs=lZ 5 g cf xs) (hh:E.hyb k=none) {l:List Event} (h:l.length< 4611686018427387904): ∃l':List Event,l'.Perm l∧Ev E k [.msl 5 (l.map Event.v) 0 l.length,.fn g []] ⟨.tuple [],[(0,l'.map Event.v)]⟩:=by
 obtain⟨l',h1,h2⟩:=xW (v:=Event.v) (k:=5) (g:=g) (fun e=> [e.kind,e.at_,e.id,e.other,e.n]) (fun l=> ⟨l.getD 0 0,l.getD 1 0,l.getD 2 0,l.getD 3 0,l.getD 4 0⟩) (fun _=>rfl) (fun _=>rfl) (fun _=>rfl) aiO hO h
 exact⟨l',h1,Ev.ext ((hX _).trans h2) hh⟩
theorem QN {l:List Event} (h:l.length< 4611686018427387904): ∃l':List Event,l'.Perm l∧Ev E 544 [.msl 5 (l.map Event.v) 0 l.length,.fn 545 []] ⟨.tuple [],[(0,l'.map Event.v)]⟩:=Aq (zi 2 4) (fun _=>rfl) rfl h
theorem QO {l:List Event} (h:l.length< 4611686018427387904): ∃l':List Event,l'.Perm l∧Ev E 25 [.msl 5 (l.map Event.v) 0 l.length,.fn 26 []] ⟨.tuple [],[(0,l'.map Event.v)]⟩:=Aq (LW 2) (fun _=>rfl) rfl h
theorem GQ (a b:Pt): ∃p q:Pt,Ev E 253 [.msl 2 [a.v,b.v] 0 2,.fn 254 []] ⟨.tuple [],[(0,[p.v,q.v])]⟩:=by
 obtain⟨l',h1,h2⟩:=xW (v:=Pt.v) (k:=2) (g:=254) (l:=[a,b]) (fun p=> [p.x,p.y]) (fun l=> ⟨l.getD 0 0,l.getD 1 0⟩) (fun _=>rfl) (fun _=>rfl) (fun _=>rfl) aiO (zi 0 1) abW
 match l',h1.length_eq with
 | [p,q],_=>exact⟨p,q,Ev.ext h2⟩
end Go.AM
namespace Go.AM
def vd (ps:List Place) (p:Place) (j:Nat):Option Place:=match ps[j]? with
 | some o=>if gJ ps o.id=j∧qj ps p.id o.id=0 then some o else none
 | none=>none
def o7 (ps:List Place) (p:Place) (i:Nat):List Place:=(List.range i).filterMap (vd ps p)
def EX (ps:List Place) (p:Place) (j:Nat):Option Place:=match o7 ps p j with
 | []=>none
 | x::xs=>some (GP (zr p) xs x)
theorem EY (ps:List Place) (p:Place) (i:Nat):o7 ps p (i+1)=o7 ps p i++(vd ps p i).toList:=by
 simp only[o7,List.range_succ,List.filterMap_append]
 cases h:vd ps p i<;>simp[List.filterMap_cons,h]
theorem GR (ps:List Place) (p:Place) (i:Nat): (o7 ps p i).length≤i:=by
 simp only[o7]
 exact ajb (akW _ _) abW
noncomputable def EZ (ps:List Place) (d:Int) (j:Nat):Option Event:=match ps[j]? with
 | some p=>if p.bG=d∧gJ ps p.id=j then(match EX ps p ps.length with
   | some o=>some ⟨4,if 1 <mZ ps p.id o.id then mZ ps p.id o.id else 1,p.id,o.id,0⟩
   | none=>none) else none
 | none=>none
noncomputable def qo (ps:List Place) (d:Int) (i:Nat):List Event:=(List.range i).filterMap (EZ ps d)
theorem GS (ps:List Place) (d:Int) (i:Nat):qo ps d (i+1)=qo ps d i++(EZ ps d i).toList:=by
 simp only[qo,List.range_succ,List.filterMap_append]
 cases h:EZ ps d i<;>simp[List.filterMap_cons,h]
theorem tL (ps:List Place) (d:Int) (i:Nat): (qo ps d i).length≤i:=by
 simp only[qo]
 exact ajb (akW _ _) abW
end Go.AM
namespace Go.AM
section
variable {m:aI} (hlen:m.az.length< 1000000)
include hlen
theorem JX (d:Int): ∃l':List Event,l'.Perm (qo m.az d m.az.length)∧Ev E 9 [m.v,vi d] ⟨.own 5 (l'.map Event.v),[]⟩:=by
 have ve:=L9 hlen
 have iF:=JT hlen
 have acq:=zp hlen
 have aiq:=tL m.az d m.az.length
 obtain⟨l',ET,GU⟩:=QO (l:=qo m.az d m.az.length) abV
 refine⟨l',ET,?_⟩
 have YB:=ET.length_eq
 refine Ev.aD rfl rfl rfl ?_
 conv=>whnf
 repeat' (first| intro g| refine st ?_| refine br ?_ ?_<;>intro hc| rfl) <;>conv=>whnf
 rename_i g1 g2
 refine aL.by (fun ((k,es,g5):Nat×List Event×Nat)=> ⟨[(1,vi d),(2,.ptr 48 g1 0 0),(5,.sl 97 g5 0 es.length),(14,.lit 7 (m.az.map Place.v)),(15,av (m.az.map Place.v).length),(16,av k)],[(48,⟨g1,4,false,false,some [m.v]⟩),(97,⟨g5,5,true,false,some (es.map Event.v)⟩)]⟩)
  (fun (k,es,_)=>k≤m.az.length∧es=qo m.az d k) (fun (k,_)=>m.az.length - k) (0,[],g) su ⟨abW,rfl⟩ ?_
 rintro⟨k,es,g5⟩ ⟨hk,bq⟩
 try dsimp only at hk bq
 have sO:=tL m.az d k
 rw[←bq] at sO
 by_cases bl:k<m.az.length
 ·obtain⟨p,Uy⟩: ∃p,m.az[k]? =some p:=⟨_,aH bl⟩
  have hs:=GS m.az d k
  rw[←bq] at hs
  have hfp:=ve p.id
  by_cases hd:p.bG=d
  case neg=>
   have he:EZ m.az d k=none:=by simp[EZ,Uy,hd]
   rw[he] at hs
   conv=>whnf
   repeat' (first| intro g| refine wi (aq Uy rfl) ?_| apply ca hfp| refine st ?_| refine br ?_ ?_<;>intro hc| rfl) <;>conv=>whnf
   all_goals exact aK.mk (k+1,es,g5) om ⟨om,by simpa using hs.symm⟩ su
  by_cases hf:gJ m.az p.id=k
  case neg=>
   have he:EZ m.az d k=none:=by simp[EZ,Uy,hf]
   rw[he] at hs
   conv=>whnf
   repeat' (first| intro g| refine wi (aq Uy rfl) ?_| apply ca hfp| refine st ?_| refine br ?_ ?_<;>intro hc| rfl) <;>conv=>whnf
   all_goals exact aK.mk (k+1,es,g5) om ⟨om,by simpa using hs.symm⟩ su
  rw[hf] at hfp
  conv=>whnf
  repeat' (first| intro g| refine wi (aq Uy rfl) ?_| apply ca hfp| refine st ?_| refine br ?_ ?_<;>intro hc| rfl) <;>conv=>whnf
  rename_i g7
  refine aL.by (fun ((i,cs,g8):Nat×List Place×Nat)=> ⟨[(1,vi d),(2,.ptr 48 g1 0 0),(5,.sl 97 g5 0 es.length),(14,.lit 7 (m.az.map Place.v)),(15,av (m.az.map Place.v).length),(16,av k),
     (7,.ptr 128 g7 0 0),(8,.sl 145 g8 0 cs.length),(34,.lit 7 (m.az.map Place.v)),(35,av (m.az.map Place.v).length),(36,av i)],
     [(48,⟨g1,4,false,false,some [m.v]⟩),(97,⟨g5,5,true,false,some (es.map Event.v)⟩),(128,⟨g7,7,false,false,some [p.v]⟩),(145,⟨g8,7,true,false,some (cs.map Place.v)⟩)]⟩)
   (fun (i,cs,_)=>i≤m.az.length∧cs=o7 m.az p i) (fun (i,_)=>m.az.length - i) (0,[],g) su ⟨abW,rfl⟩ ?_
  rintro⟨i,cs,g8⟩ ⟨hi,oN⟩
  try dsimp only at hi oN
  have iB:=GR m.az p i
  rw[←oN] at iB
  by_cases Yw:i<m.az.length
  ·obtain⟨o,ho⟩: ∃o,m.az[i]? =some o:=⟨_,aH Yw⟩
   have mn:=EY m.az p i
   rw[←oN] at mn
   have GV:=ve o.id
   have hca:=iF p.id o.id
   by_cases JY:gJ m.az o.id=i
   case neg=>
     have hc:vd m.az p i=none:=by simp[vd,ho,JY]
     rw[hc] at mn
     conv=>whnf
     repeat' (first| intro g| refine wi (aq ho rfl) ?_| apply ca GV| apply ca hca| refine st ?_| refine br ?_ ?_<;>intro hc| rfl) <;>conv=>whnf
     all_goals exact aK.mk (i+1,cs,g8) om ⟨om,by simpa using mn.symm⟩ su
   rw[JY] at GV
   by_cases iw:qj m.az p.id o.id=0
   case neg=>
     have hc:vd m.az p i=none:=by simp[vd,ho,iw]
     rw[hc] at mn
     conv=>whnf
     repeat' (first| intro g| refine wi (aq ho rfl) ?_| apply ca GV| apply ca hca| refine st ?_| refine br ?_ ?_<;>intro hc| rfl) <;>conv=>whnf
     all_goals exact aK.mk (i+1,cs,g8) om ⟨om,by simpa using mn.symm⟩ su
   rw[iw] at hca
   have hc:vd m.az p i=some o:=by simp[vd,ho,JY,iw]
   rw[hc] at mn
   conv=>whnf
   repeat' (first| intro g| refine wi (aq ho rfl) ?_| apply ca GV| apply ca hca| refine st ?_| refine br ?_ ?_<;>intro hc| rfl) <;>conv=>whnf
   exact aK.mk (i+1,cs++[o],g) om ⟨om,by simpa using mn.symm⟩ su
  ·have:i=m.az.length:=abV
   subst this
   have kY:EZ m.az d k=(match EX m.az p m.az.length with
     | some o=>some ⟨4,if 1 <mZ m.az p.id o.id then mZ m.az p.id o.id else 1,p.id,o.id,0⟩
     | none=>none):=by
     simp only[EZ,Uy,hd,hf,and_self,if_true]
     try (cases EX m.az p m.az.length<;>rfl)
   unfold EX at kY
   rw[←oN] at kY
   cases cs with
   | nil=>
     have hle:=Nr p
     dsimp only at kY
     conv=>whnf
     repeat' (first| intro g| refine wi (jr (l:=([]:List Place)) rfl) ?_| apply ca hle| refine st ?_| refine br ?_ ?_<;>intro hc| rfl) <;>conv=>whnf
     rw[kY] at hs
     exact aK.mk (k+1,es,g5) om ⟨om,by simpa using hs.symm⟩ su
   | cons x xs=>
     have hle:=QM p (l:=xs) (x0:=x) (by simp only[ai5] at iB;omega)
     dsimp only at kY
     generalize hxo:GP (zr p) xs x=o at hle kY
     have hco:=acq p.id o.id
     conv=>whnf
     repeat' (first| intro g| refine wi (jr rfl) ?_| apply ca hle| apply ca hco| refine st ?_| refine br ?_ ?_<;>intro hc| rfl) <;>conv=>whnf
     rw[kY] at hs
     exact aK.mk (k+1,es++[⟨4,if 1 <mZ m.az p.id o.id then mZ m.az p.id o.id else 1,p.id,o.id,0⟩],g) om ⟨om,by simpa using hs.symm⟩ su
 ·have:k=m.az.length:=abV
  subst this
  subst bq
  conv=>whnf
  repeat' (first| intro g| refine wi (jr abV) ?_| apply ca GU| refine st ?_| refine br ?_ ?_<;>intro hc| rfl) <;>conv=>whnf
end
end Go.AM
namespace Go.AM
section
variable {m:aI} (hlen:m.az.length< 1000000)
include hlen
end
end Go.AM
namespace Go.AM
theorem wY (l:List Edge) (h:l.length< 1000000):Ev E 28 [.lit 4 (l.map Edge.v)] ⟨.own 4 (l.map Edge.v),[]⟩:=
 Ev.ext (by rw[acf];simp[dI];omega)
theorem rS (l:List aW) (h:l.length< 1000000):Ev E 29 [.lit 5 (l.map aW.v)] ⟨.own 5 (l.map aW.v),[]⟩:=
 Ev.ext (by rw[acg];simp[dI];omega)
theorem rT (l:List Way) (h:l.length< 1000000):Ev E 30 [.lit 8 (l.map Way.v)] ⟨.own 8 (l.map Way.v),[]⟩:=
 Ev.ext (by rw[ach];simp[dI];omega)
theorem lP (l:List Place) (h:l.length< 1000000):Ev E 31 [.lit 7 (l.map Place.v)] ⟨.own 7 (l.map Place.v),[]⟩:=
 Ev.ext (by rw[ace];simp[dI];omega)
theorem eR (l:List Pt) (h:l.length< 1000000):Ev E 32 [iP l] ⟨.own 2 (l.map Pt.v),[]⟩:=
 Ev.ext (by rw[aci];simp[dI,iP];omega)
structure aI.Fit (m:aI):Prop where
 e:m.aB.length< 1000000
 f:m.an.length< 1000000
 w:m.ways.length< 1000000
 p:m.az.length< 1000000
 el: ∀e ∈ m.aB,e.line.length< 1000000
 wl: ∀w ∈ m.ways,w.line.length< 1000000
def Xk (a b:Ah):Ah:=if a=[] then b else a
theorem QP (a b:Ah):Ev E 17 [.lit 1 [.str a,.str b]] ⟨.str (Xk a b),[]⟩:=by
 refine Ev.aD rfl rfl rfl ?_
 conv=>whnf
 repeat' (first| intro g| refine st ?_| refine br ?_ ?_<;>intro hc| rfl) <;>conv=>whnf
 refine aL.by (fun i:Nat=> ⟨[(3,.str []),(6,.lit 1 [.str a,.str b]),(7,av 2),(8,av i)],[]⟩) (fun i=>i≤2∧(1≤i→a=[])∧(2≤i→b=[])) (fun i=>2 - i) 0 su ?_ ?_
 ·simp
 rintro i ⟨hi,h1,h2⟩
 rcases(by omega:i=0∨i=1∨i=2) with rfl| rfl| rfl
 ·conv=>whnf
  repeat' (first| intro g| refine st ?_| refine br ?_ ?_<;>intro hc| rfl) <;>conv=>whnf
  ·simp[Xk,hc]
  ·refine aK.mk (1) om ?_ su
   exact⟨abV,fun _=>by simpa using hc,fun h=>abV⟩
 ·have ha:=h1 abV
  conv=>whnf
  repeat' (first| intro g| refine st ?_| refine br ?_ ?_<;>intro hc| rfl) <;>conv=>whnf
  ·simp[Xk,ha]
  ·refine aK.mk (2) om ?_ su
   exact⟨abV,fun _=>ha,fun _=>by simpa using hc⟩
 ·have ha:=h1 abV
  have hb:=h2 abV
  conv=>whnf
  repeat' (first| intro g| refine st ?_| refine br ?_ ?_<;>intro hc| rfl) <;>conv=>whnf
  all_goals simp[Xk,ha,hb]
theorem Ns {m:aI} (h:m.Fit):Ev E 16 [m.v] ⟨.agg [.own 4 (m.aB.map Edge.v),.own 5 (m.an.map aW.v),.own 8 (m.ways.map Way.v),.own 7 (m.az.map Place.v)],[]⟩:=by
 have hle:=h.e
 have hlw:=h.w
 have c1:=wY m.aB h.e
 have c2:=rS m.an h.f
 have c3:=rT m.ways h.w
 have c4:=lP m.az h.p
 refine Ev.aD rfl rfl rfl ?_
 conv=>whnf
 repeat' (first| intro g| apply ca c1| apply ca c2| apply ca c3| apply ca c4| refine st ?_| refine br ?_ ?_<;>intro hc| rfl) <;>conv=>whnf
 rename_i g1 g2 gE gF gW gP
 have hE: ∀ {l:List Edge} {i:Nat} {x:Edge},l[i]? =some x→(l.map Edge.v).set (i:Int).toNat (.agg [vi x.id,.lit 2 (x.line.map Pt.v),vi x.left,vi x.right])=l.map Edge.v:=fun h=>uZ h
 have hW: ∀ {l:List Way} {i:Nat} {x:Way},l[i]? =some x→(l.map Way.v).set (i:Int).toNat (.agg [vi x.id,.lit 2 (x.line.map Pt.v),vi x.level,.str x.cls,.str x.name,.bool x.Ai,vi x.weight,vi x.bG])=l.map Way.v:=fun h=>uZ h
 refine aL.by (fun (i:Nat)=> ⟨[(2,.ptr 48 g2 0 0),(3,.ptr 64 g 0 0),(21,av (m.aB.map Edge.v).length),(22,av i)],
   [(64,⟨g,4,false,false,some [.agg [.sl 144 gE 0 (m.aB.map Edge.v).length,.sl 192 gF 0 (m.an.map aW.v).length,.sl 240 gW 0 (m.ways.map Way.v).length,.sl 288 gP 0 (m.az.map Place.v).length]]⟩),
    (48,⟨g2,4,false,false,some [.agg [.lit 4 [],.lit 5 [],.lit 8 [],.lit 7 []]]⟩),
    (144,⟨gE,4,true,false,some (m.aB.map Edge.v)⟩),(192,⟨gF,5,true,false,some (m.an.map aW.v)⟩),(240,⟨gW,8,true,false,some (m.ways.map Way.v)⟩),(288,⟨gP,7,true,false,some (m.az.map Place.v)⟩)]⟩)
  (fun i=>i≤m.aB.length) (fun i=>m.aB.length - i) 0 su abW ?_
 rintro i hi
 by_cases bl:i<m.aB.length
 ·obtain⟨e,he⟩: ∃e,m.aB[i]? =some e:=⟨_,aH bl⟩
  have iB:=eR e.line (h.el e (List.mem_of_getElem? he))
  conv=>whnf
  repeat' (first| intro g| refine wi (aq he rfl) ?_| apply ca iB| refine st ?_| refine br ?_ ?_<;>intro hc| rfl) <;>conv=>whnf
  have e1: (⟨gE,4,true,false,some ((m.aB.map Edge.v).set (i:Int).toNat (.agg [vi e.id,.lit 2 (e.line.map Pt.v),vi e.left,vi e.right]))⟩:Obj)=⟨gE,4,true,false,some (m.aB.map Edge.v)⟩:=by rw[hE he]
  exact aK.mk (i+1) om abV (by(refine⟨?_,?_⟩ <;>repeat' (first| exact True.intro| refine And.intro (e1) ?_| refine ai ?_| refine And.intro ?_ ?_)))
 obtain rfl:i=m.aB.length:=abV
 conv=>whnf
 repeat' (first| intro g| refine st ?_| refine br ?_ ?_<;>intro hc| rfl) <;>conv=>whnf
 refine aL.by (fun (i:Nat)=> ⟨[(2,.ptr 48 g2 0 0),(3,.ptr 64 g 0 0),(40,av (m.ways.map Way.v).length),(41,av i)],
   [(64,⟨g,4,false,false,some [.agg [.sl 144 gE 0 (m.aB.map Edge.v).length,.sl 192 gF 0 (m.an.map aW.v).length,.sl 240 gW 0 (m.ways.map Way.v).length,.sl 288 gP 0 (m.az.map Place.v).length]]⟩),
    (48,⟨g2,4,false,false,some [.agg [.lit 4 [],.lit 5 [],.lit 8 [],.lit 7 []]]⟩),
    (144,⟨gE,4,true,false,some (m.aB.map Edge.v)⟩),(192,⟨gF,5,true,false,some (m.an.map aW.v)⟩),(240,⟨gW,8,true,false,some (m.ways.map Way.v)⟩),(288,⟨gP,7,true,false,some (m.az.map Place.v)⟩)]⟩)
  (fun i=>i≤m.ways.length) (fun i=>m.ways.length - i) 0 su abW ?_
 rintro i hi
 by_cases bl:i<m.ways.length
 ·obtain⟨e,he⟩: ∃e,m.ways[i]? =some e:=⟨_,aH bl⟩
  have iB:=eR e.line (h.wl e (List.mem_of_getElem? he))
  conv=>whnf
  repeat' (first| intro g| refine wi (aq he rfl) ?_| apply ca iB| refine st ?_| refine br ?_ ?_<;>intro hc| rfl) <;>conv=>whnf
  have e1: (⟨gW,8,true,false,some ((m.ways.map Way.v).set (i:Int).toNat (.agg [vi e.id,.lit 2 (e.line.map Pt.v),vi e.level,.str e.cls,.str e.name,.bool e.Ai,vi e.weight,vi e.bG]))⟩:Obj)=⟨gW,8,true,false,some (m.ways.map Way.v)⟩:=by rw[hW he]
  exact aK.mk (i+1) om abV (by(refine⟨?_,?_⟩ <;>repeat' (first| exact True.intro| refine And.intro (e1) ?_| refine ai ?_| refine And.intro ?_ ?_)))
 obtain rfl:i=m.ways.length:=abV
 conv=>whnf
 repeat' (first| intro g| refine wi (gI rfl) ?_| refine st ?_| refine br ?_ ?_<;>intro hc| rfl) <;>conv=>whnf
theorem Nt {l:List Place} {i:Nat} (hi:i<l.length) (h:l.length< 1000000):Ev E 18 [.msl 7 (l.map Place.v) 0 l.length,av i,vi (IntKind.i64.wrap ((i:Int)+1))] ⟨.sl 0 0 0 (l.length - 1),[(0,(l.eraseIdx i).map Place.v++[(Place.mk 0 0 0 [] [] 0 0).v])]⟩:=by
 have hw:IntKind.i64.wrap ((i:Int)+1)=((i+1:Nat):Int):=wt
 rw[hw]
 refine Ev.aD rfl rfl rfl ?_
 have E0:aG (l.map Place.v) (0+((i+1:Nat):Int).toNat) (l.length - ((i+1:Nat):Int).toNat)=(l.drop (i+1)).map Place.v:=by
  rw[gG]
  congr 1
  rw[List.take_of_length_le abW]
  simp
 conv=>whnf
 repeat' (first| intro g| refine nd (by first| ((and_intros<;>first| rfl| exact bj (bj (Place.aN _) (Place.aN _)) (bE rfl) | exact eH (bj (bj (Place.aN _) (Place.aN _)) (bE rfl)) | (simp only[overwrite,aG,List.length_map,List.length_append,ai5,ajc,ajg,aju];omega) | omega)) | fail) ?_| refine wi E0 ?_| refine st ?_| refine br ?_ ?_<;>intro hc| rfl) <;>conv=>whnf
 obtain⟨A,x,B,rfl,hA⟩: ∃A x B,l=A++x::B∧A.length=i:=⟨l.take i,l[i],l.drop (i+1),abW,by simp;omega⟩
 have e1: (A++x::B).drop (i+1)=B:=by
  rw[←hA];simp[akz]
 have e2: (A++x::B).eraseIdx i=A++B:=by
  rw[←hA];simp[akk]
 have e3: ((i:Int).toNat - 0+((B).map Place.v).length)=A.length+B.length:=by simp;omega
 rw[e1,e2,e3]
 have e4: ((A.length+B.length:Nat):Int).toNat=A.length+B.length:=abV
 have e5: (((A++x::B).length:Nat):Int).toNat - (A.length+B.length)=1:=by simp;omega
 have e6: (A++x::B).length - 1=A.length+B.length:=abW
 rw[e4,e5,e6]
 subst hA
 show (⟨V.sl 0 0 0 _,[(0,_)]⟩:eZ)=_
 congr 3
 simp[overwrite,List.take_append,akz]
 rw[List.take_of_length_le abW,ai7 (by simp;omega),ai7 (by simp;omega),ai7 (by simp;omega),ai7 (by simp;omega)]
 rfl
def wZ (a b:Place):Place:={b with weight:=if 255 <gC (b.weight+a.weight) then 255 else gC (b.weight+a.weight),name:=Xk b.name a.name}
def o8 (ps:List Place) (place fC:Int):List Place:=
 match ps[(gJ ps place).toNat]?,ps[(gJ ps fC).toNat]? with
 | some a,some b=> (ps.set (gJ ps fC).toNat (wZ a b)).eraseIdx (gJ ps place).toNat
 | _,_=> []
def aI.zero:aI:=⟨[],[],[],[]⟩
theorem QQ {m:aI} (h:m.Fit) (place fC:Int):Ev E 7 [m.v,vi place,vi fC] ⟨if qj m.az place fC=0 then
   .tuple [.agg [.own 4 (m.aB.map Edge.v),.own 5 (m.an.map aW.v),.own 8 (m.ways.map Way.v),.own 7 ((o8 m.az place fC).map Place.v)],vi 0]
  else .tuple [aI.zero.v,vi (qj m.az place fC)],[]⟩:=by
 have iF:=JT h.p place fC
 have Xl:=u7 h.p place fC
 by_cases iw:qj m.az place fC=0
 case neg=>
  rw[if_neg iw]
  refine Ev.aD rfl rfl rfl ?_
  exact aiN
 rw[if_pos iw]
 rw[iw] at iF
 rcases jT m.az place with h1| ⟨i,a,h1,ha,hia⟩
 ·exact absurd iw (by simp[qj,h1])
 rcases jT m.az fC with h2| ⟨k,b,h2,hb,hkb⟩
 ·exact absurd iw (by simp[qj,h2])
 have agW:=Ns h
 rw[h1,h2] at Xl
 have Cw:i<m.az.length:=(aiS.1 ha).1
 have Yk:k<m.az.length:=(aiS.1 hb).1
 have GW:i≠k:=by
  intro e;subst e
  rw[ha] at hb;injection hb with hb;subst hb
  have:GN place fC a a=1:=by simp[GN,←hia,←hkb]
  simp[qj,h1,h2,ha,this] at iw
 have hp:=h.p
 refine Ev.aD rfl rfl rfl ?_
 have E1: ∀v1,Ev E 18 [.msl 7 (((m.az.map Place.v).set (k:Int).toNat v1).set (k:Int).toNat (wZ a b).v) 0 (m.az.map Place.v).length,av i,vi (IntKind.i64.wrap ((i:Int)+1))] ⟨.sl 0 0 0 (m.az.length - 1),[(0,((m.az.set k (wZ a b)).eraseIdx i).map Place.v++[(Place.mk 0 0 0 [] [] 0 0).v])]⟩:=by
  intro v1
  have:=Nt (l:=m.az.set k (wZ a b)) (i:=i) (by simpa using Cw) (by simpa using hp)
  rw[List.set_set,←ajH]
  simpa using this
 have hle:m.az.length - 1=((m.az.set k (wZ a b)).eraseIdx i).length:=by simp[ajV,Cw]
 have Cx:o8 m.az place fC=(m.az.set k (wZ a b)).eraseIdx i:=by simp[o8,h1,h2,ha,hb]
 rw[Cx]
 conv=>whnf
 repeat' (first| intro g| refine wi (aq ha rfl) ?_| refine wi (aq hb rfl) ?_| refine wi (lC (aq hb rfl)) ?_| refine wi (lC (lC (aq hb rfl))) ?_| refine wi (rP hle) ?_| refine wi (jr abW) ?_| apply ca iF| apply ca Xl| apply ca agW| apply ca (QP _ _) | apply ca (E1 _) | refine st ?_| refine br ?_ ?_<;>intro hc| rfl) <;>conv=>whnf
 all_goals trace_state
end Go.AM
namespace Go.AM
def QR (p:Pt) (lvl:Int):V:= .agg [vi p.x,vi p.y,vi lvl]
theorem Ar (p:Pt) (lvl:Int):bM (QR p lvl)=true:=rfl
structure WLn (w:Way) (p q:Pt):Prop where
 pos:0 <w.line.length
 lt:w.line.length< 1000
 first:w.line[0]? =some p
 last:w.line[w.line.length - 1]? =some q
theorem WLn.ex {w:Way} (h0:0 <w.line.length) (h1:w.line.length< 1000): ∃p q,WLn w p q:=
 ⟨_,_,h0,h1,aiW abV,aiW abV⟩
theorem As {w:Way} {p q:Pt} (h:WLn w p q):Ev E 695 [w.v] ⟨.own 3 [QR p w.level,QR q w.level],[]⟩:=by
 obtain⟨h0,h1,h2,h3⟩:=h
 have hw:IntKind.i64.wrap (((w.line.map Pt.v).length:Int) - 1)=((w.line.length - 1:Nat):Int):=by rw[List.length_map,wrap64 abV abV];omega
 have hq: (w.line.map Pt.v)[(IntKind.i64.wrap (((w.line.map Pt.v).length:Int) - 1)).toNat]? =some q.v:=by rw[hw,Int.toNat_natCast];exact aq h3 rfl
 have hn:0≤IntKind.i64.wrap (((w.line.map Pt.v).length:Int) - 1):=by rw[hw];omega
 clear hw
 refine Ev.aD rfl rfl rfl ?_
 conv=>whnf
 repeat' (first| refine fN.mk ⟨hn,rfl⟩ ?_| intro g| refine wi (aq h2 rfl) ?_| refine wi hq ?_| refine st ?_| refine br ?_ ?_<;>intro hc| rfl) <;>conv=>whnf
end Go.AM
namespace Go.AM
theorem acr {α:Type} (f:Nat→α) (t:Nat) (v:α):da f t v t=v:=by simp[da]
theorem YC {α:Type} (f:Nat→α) {t n:Nat} (v:α) (h:n≠t):da f t v n=f n:=by simp[da,h]
def JZ (i:Nat) (g:Nat) (e:List Int):V:= .sl (16001488+16*i) g 0 e.length
def ez:Nat→List (Nat×List Int)→List V
 | _,[]=> []
 | i,p::l=>JZ i p.1 p.2::ez (i+1) l
def U5 (p:Nat×List Int):Obj:=⟨p.1,1,true,false,some (p.2.map vi)⟩
def sP:Nat→List (Nat×List Int)→List (Nat×Obj)
 | _,[]=> []
 | i,p::l=> (16001488+16*i,U5 p)::sP (i+1) l
theorem lQ: ∀ (i:Nat) (l:List (Nat×List Int)),(ez i l).length=l.length
 | _,[]=>rfl
 | i,_::l=>by simp[ez,lQ (i+1) l]
theorem De: ∀ (i:Nat) (l:List (Nat×List Int)) (p:Nat×List Int),ez i (l++[p])=ez i l++[JZ (i+l.length) p.1 p.2]
 | i,[],p=>rfl
 | i,q::l,p=>by
   have:i+1+l.length=i+(l.length+1):=abV
   simp[ez,De (i+1) l p,this]
theorem rU: ∀ {i:Nat} {l:List (Nat×List Int)} {k:Nat} {p:Nat×List Int},l[k]? =some p→(ez i l)[k]? =some (JZ (i+k) p.1 p.2)
 | i,[],k,p,h=>by simp at h
 | i,q::l,0,p,h=>by simp at h;subst h;rfl
 | i,q::l,k+1,p,h=>by
   have:=rU (i:=i+1) (l:=l) (k:=k) (p:=p) (by simpa using h)
   simp only[ez,aj8,this]
   rw[show i+1+k=i+(k+1) from by omega]
theorem kA: ∀ {i:Nat} {l:List (Nat×List Int)} {k:Nat} {p:Nat×List Int},l[k]? =some p→lk (sP i l) (16001488+16*(i+k))=some (U5 p)
 | i,[],k,p,h=>by simp at h
 | i,q::l,0,p,h=>by simp at h;subst h;simp[sP,fb]
 | i,q::l,k+1,p,h=>by
   have:=kA (i:=i+1) (l:=l) (k:=k) (p:=p) (by simpa using h)
   rw[sP,fb,if_neg (by simp only;omega),show i+(k+1)=i+1+k from by omega]
   exact this
theorem qp {α:Type} {i n:Nat} {o:α} {l:List (Nat×α)} (h:n< 16001488):lk ((16001488+16*i,o)::l) n=lk l n:=by
 rw[fb,if_neg (by simp only;omega)]
theorem nN {α:Type} {k i:Nat} {o:α} {l:List (Nat×α)} (h:k< 16001488):lk ((k,o)::l) (16001488+16*i)=lk l (16001488+16*i):=by
 rw[fb,if_neg (by simp only;omega)]
theorem fD {α:Type} {k:Nat} {o:α} {l:List (Nat×α)}:lk ((k,o)::l) k=some o:=by
 rw[fb,if_pos rfl]
theorem ik {α:Type} {p:Nat×α} {l m:List (Nat×α)} (h:lk m p.1=some p.2) (k:yU l m):yU (p::l) m:=
 ⟨by rw[h],k⟩
theorem qq {M:List (Nat×Obj)}: ∀ {i:Nat} {l:List (Nat×List Int)},(∀k p,l[k]? =some p→lk M (16001488+16*(i+k))=some (U5 p))→yU (sP i l) M
 | _,[],_=>trivial
 | i,p::l,h=>by
   refine ik (h 0 p rfl) (qq fun k q hq=> ?_)
   rw[show i+1+k=i+(k+1) from by omega]
   exact h (k+1) q (by simpa using hq)
theorem QS {α:Type} {k n:Nat} {o:α} {l:List (Nat×α)} (h:k≠n):lk ((k,o)::l) n=lk l n:=by
 rw[fb,if_neg h]
theorem Au {α:Type} {k n:Nat} {o:α} {l:List (Nat×α)} (h:Nat.beq k n=false):lk ((k,o)::l) n=lk l n:=by
 simp only[lk,h,cond_false]
theorem QT {E:Env} {t:Nat} {o:Obj} {k:Obj→bF} {S:SS} {Q:KK} (h:lk S.O t=some o) (hk:fy E (k o) S fun v S' r w=>Q v S' (.o t::r) w):fy E (.bR t k) S Q:=by
 simp only[fy,h]
 exact hk
theorem Nc.any {E:Env} {a:Act} {S:SS} {Q:KK} (h: ∀σ,S.On σ→Ju E a σ fun v σ'=> ∃S',S'.On σ'∧ ∀r w,Q v S' r w):Nc E a S Q:=
 ⟨fun σ ho=>by
   obtain⟨n,v,σ',h1,S',h2,h3⟩:=h σ ho
   exact⟨n,v,σ',h1,S',h2,h3 _ _⟩⟩
theorem w8: ∀ {i:Nat} {l:List (Nat×List Int)} {k g:Nat} {y:List Int},ez i (l.set k (g,y))=(ez i l).set k (.sl (16001488+16*(i+k)) g 0 y.length)
 | _,[],_,_,_=>rfl
 | i,p::l,0,g,y=>rfl
 | i,p::l,k+1,g,y=>by
   simp only[List.set_cons_succ,ez]
   rw[w8 (i:=i+1),show i+1+k=i+(k+1) from by omega]
theorem vf {α:Type}: ∀ {l:List α} {k:Nat} {x:α},l[k]? =some x→l.set k x=l
 | [],_,_,h=>by simp at h
 | y::l,0,x,h=>by simp at h;subst h;rfl
 | y::l,k+1,x,h=>by simp only[List.set_cons_succ];rw[vf (by simpa using h)]
def Nu (p:Nat×List Int):V:= .lit 1 (p.2.map vi)
theorem J0: ∀ {i:Nat} {l:List (Nat×List Int)},V.al (ez i l)=true→l=[]
 | _,[],_=>rfl
 | i,p::l,h=>by
   simp only[ez,V.al,Bool.and_eq_true] at h
   have:=h.1
   simp[JZ,V.aw] at this
def QU (O O':Nat→Obj):Prop:=(∀r,r< 16000000→O' r=O r)∧ ∀r,(O' r).gen=(O r).gen∧(O' r).sz=(O r).sz∧(O' r).arr=(O r).arr∧(O' r).es=(O r).es
theorem QU.refl (O:Nat→Obj):QU O O:=⟨fun _ _=>rfl,fun _=> ⟨rfl,rfl,rfl,rfl⟩⟩
theorem QU.trans {a b c:Nat→Obj} (h:QU a b) (k:QU b c):QU a c:=
 ⟨fun r hr=> (k.1 r hr).trans (h.1 r hr),fun r=> ⟨(k.2 r).1.trans (h.2 r).1,(k.2 r).2.1.trans (h.2 r).2.1,(k.2 r).2.2.1.trans (h.2 r).2.2.1,(k.2 r).2.2.2.trans (h.2 r).2.2.2⟩⟩
theorem Mb {T:Nat→V} {Q:V→St→Prop}: ∀ {H:List (Nat×List Int)} {i:Nat} {O:Nat→Obj} {k:List V→Act},
   (∀j p,H[j]? =some p→(O (16001488+16*(i+j))).gen=p.1∧(O (16001488+16*(i+j))).sz=1∧(O (16001488+16*(i+j))).arr=true∧(O (16001488+16*(i+j))).es=some (p.2.map vi))→
   (∀O',QU O O'→Ju E (k (H.map Nu)) ⟨T,O'⟩ Q)→Ju E (nJ.go (ez i H) k) ⟨T,O⟩ Q
 | [],i,O,k,_,hk=>by simp only[ez,nJ.go];exact hk O (QU.refl O)
 | p::H,i,O,k,h,hk=>by
   obtain⟨h1,h2,h3,h4⟩:=h 0 p rfl
   rw[akl] at h1 h2 h3 h4
   have hp:V.aw (JZ i p.1 p.2)=false:=rfl
   have hw:aG (p.2.map vi) 0 p.2.length=p.2.map vi:=jr abW
   simp only[ez,nJ.go]
   unfold C6
   rw[hp]
   simp only[ai3,if_false,JZ,jk]
   rw[zJ]
   simp only[h4]
   rw[if_pos ⟨h1,h3,abW,by rw[hw];exact AM.aN (fun _=>rfl) _⟩,Gr,h2,hw]
   refine Mb (i:=i+1) (fun j q hq=> ?_) fun O' hO'=> ?_
   ·have:=h (j+1) q (by simpa using hq)
    rw[show i+(j+1)=i+1+j from by omega] at this
    have cL:16001488+16*(i+1+j)≠16001488+16*i:=abV
    simp only[YC _ _ cL]
    exact this
   ·refine hk O' (QU.trans ⟨fun r' w9=> ?_,fun r'=> ?_⟩ hO')
    ·show da O _ _ r'=_
     rw[YC _ _ abV]
    ·show (da O _ _ r').gen=_∧_
     by_cases e:r'=16001488+16*i
     ·subst e;simp[acr,h2,h4]
     ·simp[YC _ _ e]
theorem QV {T:List (Nat×V)} {Q:KK} {g n:Nat} {H:List (Nat×List Int)}
   (hq: ∀r w,Q (.sl 49 g 0 n) ⟨T,[(49,⟨g,1,true,false,some (H.map Nu)⟩)]⟩ r w):Nc E (uM (.sl 49 g 0 n)) ⟨T,(49,⟨g,1,true,false,some (ez 0 H)⟩)::sP 0 H⟩ Q:=by
 refine Nc.any fun σ ho=> ?_
 have e1:σ.O 49=_:=ho.2 49 _ fD
 have dA: ∀j p,H[j]? =some p→(σ.O (16001488+16*(0+j))).gen=p.1∧(σ.O (16001488+16*(0+j))).sz=1∧(σ.O (16001488+16*(0+j))).arr=true∧(σ.O (16001488+16*(0+j))).es=some (p.2.map vi):=fun j p hp=>by
   have:=ho.2 (16001488+16*(0+j)) (U5 p) ((nN aiO).trans (kA hp))
   rw[this];exact⟨rfl,rfl,rfl,rfl⟩
 unfold uM
 simp only
 rw[zJ,e1]
 simp only[if_true]
 have fin: ∀O',QU σ.O O'→Ju E (.bR 49 fun o'=>if o'.gen=g∧o'.es.isSome=true∧(H.map Nu).all (aV · 1)=true then .bO 49 {o' with es:=some (H.map Nu)} (.done (.sl 49 g 0 n)) else .fail) ⟨σ.T,O'⟩ fun v σ'=> ∃S',S'.On σ'∧ ∀r w,Q v S' r w:=fun O' hf=>by
   have e3:O' 49=_:=(hf.1 49 aiO).trans e1
   rw[zJ]
   simp only[e3,Option.isSome_some]
   rw[if_pos ⟨trivial,trivial,by rw[List.all_map,aiY];exact fun _ _=>rfl⟩,Gr,P5]
   refine⟨⟨T,[(49,⟨g,1,true,false,some (H.map Nu)⟩)]⟩,⟨fun t v hv=>ho.1 t v hv,fun r o hr=> ?_⟩,hq⟩
   show da O' 49 _ r=o
   rw[fb] at hr
   by_cases e:49=r
   ·rw[if_pos e] at hr
    injection hr with hr
    subst e
    rw[acr];exact hr
   ·rw[if_neg e] at hr
    simp[lk] at hr
 unfold nJ
 cases hp:V.al (ez 0 H) with
 | true=>
   have:=J0 hp
   subst this
   rw[if_pos rfl]
   exact fin σ.O (QU.refl _)
 | false=>
   rw[if_neg abW]
   exact Mb (i:=0) dA fin
end Go.AM
namespace Go.AM
end Go.AM
