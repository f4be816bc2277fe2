/-
  Texts of the proof, joined by program: FkS, FkA, FkB, FkC, FkD. Own work.
-/
import Derived.Test.YtinmckmdbepjcaaData
import Derived.Test.YtinmckmdbepjcaaOpsC
import Derived.Test.YtinmckmdbepjcaaGb
import Derived.Test.YtinmckmdbepjcaaLb
set_option linter.unusedSimpArgs false
set_option linter.unusedVariables false
set_option maxRecDepth 20000
namespace Go.AM
def IsSqrt (n s:Int):Prop:=0≤s∧s*s≤n∧n< (s+1)*(s+1)
theorem Zh {a b:Int} (h0:0≤a) (h:a≤b):a*a≤b*b:=Int.mul_le_mul h h h0 (by omega)
theorem IsSqrt.uniq {n s t:Int} (h:IsSqrt n s) (k:IsSqrt n t):s=t:=by
 obtain⟨h1,h2,h3⟩:=h
 obtain⟨k1,k2,k3⟩:=k
 rcases Int.lt_trichotomy s t with hl| hl| hl
 · have:=Zh (a:=s+1) (b:=t) (by omega) (by omega);omega
 · exact hl
 · have:=Zh (a:=t+1) (b:=s) (by omega) (by omega);omega
open Classical in
noncomputable def Zw (n:Int):Int:=if h: ∃s,IsSqrt n s then h.choose else 0
theorem Zx {n s:Int} (h:IsSqrt n s):Zw n=s:=by
 have hex: ∃s,IsSqrt n s:=⟨s,h⟩
 unfold Zw;rw[dif_pos hex];exact hex.choose_spec.uniq h
theorem aav {n:Int} (h:n≤0):Zw n=0:=by
 by_cases hz:n=0
 · subst hz;exact Zx ⟨by omega,by omega,by omega⟩
 · unfold Zw;rw[dif_neg]
   rintro⟨s,h1,h2,h3⟩
   have:=Int.mul_nonneg h1 h1
   omega
theorem ZV {b r:Nat} (h:FloatKind.f64.format.sqrt b=some r):Ev E 41 [.float b] ⟨.float r,[]⟩:=by
 have hsq:Ev E 52 [.float b] ⟨.float r,[]⟩:=Ev.ext (by rw[acH];simp[Em,h])
 refine Ev.bU acF (acG _) rfl ?_
 (conv=>whnf);repeat' ((first| intro g| refine ag.mk _ (hsq) ?_| refine st ?_| (first| refine b1 ?_ ?_| refine b2 ?_ ?_| refine Br.mk ?_ ?_) <;>intro hc| exact rfl) <;>conv=>whnf)
theorem aaW {n:Int} (h1:n≤9223372036854775807):Ev E 27 [vi n] ⟨vi (Zw n),[]⟩:=by
 by_cases h0:0 <n
 case neg=>
   rw[aav (by omega)]
   refine Ev.bU acb (acd _) rfl ?_
   (conv=>whnf);repeat' ((first| intro g| refine st ?_| (first| refine b1 ?_ ?_| refine b2 ?_ ?_| refine Br.mk ?_ ?_) <;>intro hc| exact rfl) <;>conv=>whnf)
   all_goals trivial
 obtain⟨r,m,hr,hm,EW,Pn⟩:=aaH h0 h1
 have e1:IntKind.i64.min≤m:=by simp[IntKind.min,IntKind.signed,IntKind.bits];omega
 have e2:m≤IntKind.i64.max:=by simp[IntKind.max,IntKind.signed,IntKind.bits];omega
 refine Ev.bU acb (acd _) rfl ?_
 (conv=>whnf);repeat' ((first| intro g| refine aH.mk _ ((⟨hm,e1,e2⟩:_∧_∧_)) ?_| refine ag.mk _ (ZV hr) ?_| refine st ?_| (first| refine b1 ?_ ?_| refine b2 ?_ ?_| refine Br.mk ?_ ?_) <;>intro hc| exact rfl) <;>conv=>whnf)
 generalize VZ: (if 3037000499 <m then(3037000499:Int) else m)=s0
 have xo:0≤s0∧s0≤3037000499:=by split at VZ<;>omega
 refine ba.by (fun s:Int=> ⟨[(0,vi n),(3,vi s)],[]⟩) (fun s=>0≤s∧s≤3037000499) (fun s=>s.toNat) s0 ?_ xo ?_
 · (refine⟨?_,?_⟩ <;>repeat' (first| exact True.intro| refine ai ?_| refine And.intro ?_ ?_))
 rintro s ⟨B3,DA⟩
 have hsq:=Zh B3 DA
 have ach:0≤s*s:=Int.mul_nonneg B3 B3
 have hw:IntKind.i64.wrap (s*s)=s*s:=wrap64 (by omega) (by omega)
 (conv=>whnf);repeat' ((first| intro g| refine st ?_| (first| refine b1 ?_ ?_| refine b2 ?_ ?_| refine Br.mk ?_ ?_) <;>intro hc| exact rfl) <;>conv=>whnf)
 · rw[ hw] at hc
   have:0 <s:=by
     rcases Int.lt_or_le 0 s with h| h
     · exact h
     · have:s=0:=by omega
       subst this;omega
   refine bc.mk (s - 1) (by first| omega| (dsimp only;omega)) ?_ (by(refine⟨?_,?_⟩ <;>repeat' (first| exact True.intro| refine ai ?_| refine And.intro ?_ ?_)))
   exact⟨by omega,by omega⟩
 rw[hw] at hc
 refine ba.by (fun s:Int=> ⟨[(0,vi n),(3,vi s)],[]⟩) (fun s=>0≤s∧s≤3037000499∧s*s≤n) (fun s=> (3037000499 - s).toNat) s ?_ ⟨B3,DA,by omega⟩ ?_
 · (refine⟨?_,?_⟩ <;>repeat' (first| exact True.intro| refine ai ?_| refine And.intro ?_ ?_))
 clear hw hsq ach hc B3 DA s
 rintro s ⟨B3,DA,hle⟩
 by_cases bk:s< 3037000499
 · have hsq:=Zh (a:=s+1) (b:=3037000499) (by omega) (by omega)
   have ach:0≤(s+1)*(s+1):=Int.mul_nonneg (by omega) (by omega)
   have Ps:IntKind.i64.wrap (s+1)=s+1:=wrap64 (by omega) (by omega)
   have hw:IntKind.i64.wrap ((s+1)*(s+1))=(s+1)*(s+1):=wrap64 (by omega) (by omega)
   (conv=>whnf);repeat' ((first| intro g| refine st ?_| (first| refine b1 ?_ ?_| refine b2 ?_ ?_| refine Br.mk ?_ ?_) <;>intro hc| exact rfl) <;>conv=>whnf)
   · rw[Ps,hw] at hc
     refine bc.mk (s+1) (by first| omega| (dsimp only;omega)) ?_ (by(refine⟨?_,?_⟩ <;>repeat' (first| exact True.intro| refine ai ?_| refine And.intro ?_ ?_)))
     exact⟨by omega,by omega,hc⟩
   · rw[Ps,hw] at hc
     rw[Zx ⟨B3,hle,by omega⟩]
 · (conv=>whnf);repeat' ((first| intro g| refine st ?_| (first| refine b1 ?_ ?_| refine b2 ?_ ?_| refine Br.mk ?_ ?_) <;>intro hc| exact rfl) <;>conv=>whnf)
   have:=Zh (a:=3037000500) (b:=s+1) (by omega) (by omega)
   rw[Zx ⟨B3,hle,by omega⟩]
end Go.AM
set_option maxRecDepth 20000
namespace Go.AM
theorem aaX (n:Int):IntKind.i64.wrap n≤9223372036854775807:=by
 simp[IntKind.wrap,IntKind.bits,IntKind.signed]
 split<;>omega
def aaI (p q:Pt):Int:=EE (EE (EE (q.x - p.x)*EE (q.x - p.x))+EE (EE (q.y - p.y)*EE (q.y - p.y)))
theorem aaJ (p q:Pt):aaI p q≤9223372036854775807:=aaX _
noncomputable def Z9 (l:List Pt):Nat→Int
 | 0=>0
 | k+1=>match l[k]?,l[k+1]? with
   | some p,some q=>EE (Z9 l k+Zw (aaI p q))
   | _,_=>Z9 l k
noncomputable def Y8 (l:List Pt):Int:=Z9 l (l.length - 1)
theorem aaw {l:List Pt} {k:Nat} {p q:Pt} (hp:l[k]? =some p) (hq:l[k+1]? =some q):Z9 l (k+1)=EE (Z9 l k+Zw (aaI p q)):=by
 simp only[Z9,hp,hq]
theorem abF (a b:Pt):Ev E 37 [a.v,b.v] ⟨(Pt.mk (EE (a.x - b.x)) (EE (a.y - b.y))).v,[]⟩:=by
 refine Ev.bU acB (acC _) rfl ?_
 (conv=>whnf);repeat' ((first| intro g| refine st ?_| (first| refine b1 ?_ ?_| refine b2 ?_ ?_| refine Br.mk ?_ ?_) <;>intro hc| exact rfl) <;>conv=>whnf)
theorem abG (a b:Pt):Ev E 38 [a.v,b.v] ⟨vi (EE (EE (a.x*b.x)+EE (a.y*b.y))),[]⟩:=by
 refine Ev.bU acD (acE _) rfl ?_
 (conv=>whnf);repeat' ((first| intro g| refine st ?_| (first| refine b1 ?_ ?_| refine b2 ?_ ?_| refine Br.mk ?_ ?_) <;>intro hc| exact rfl) <;>conv=>whnf)
theorem zJ: ∀ (ps:List Pt) (i k:Nat),(vl i (ps.map Pt.v))[k]? =match ps[k]?,ps[k+1]? with
   | some p,some q=>some [.int .i64 ((i+k:Nat):Int),.agg [vi p.x,vi p.y,vi q.x,vi q.y]]
   | _,_=>none
 | [],i,k=>by simp[vl]
 | [p],i,k=>by cases k<;>simp[vl]
 | p::q::r,i,0=>by simp[vl,Pt.v,V.cells]
 | p::q::r,i,k+1=>by
   have ih:=zJ (q::r) (i+1) k
   simp only[List.map_cons,vl,List.getElem?_cons_succ] at ih ⊢
   rw[ih]
   have:i+1+k=i+(k+1):=by omega
   rw[this]
theorem zI: ∀ (ps:List Pt) (i:Nat),(vl i (ps.map Pt.v)).length=ps.length - 1
 | [],i=>by simp[vl]
 | [p],i=>by simp[vl]
 | p::q::r,i=>by
   have ih:=zI (q::r) (i+1)
   simp only[List.map_cons,vl,List.length_cons] at ih ⊢
   omega
theorem ZW: ∀ (ps:List V) (i:Nat),∀x ∈ vl i ps,x.length=2
 | [],i,x,h=>by simp[vl] at h
 | [p],i,x,h=>by simp[vl] at h
 | p::q::r,i,x,h=>by
   rw[vl] at h
   rcases List.mem_cons.1 h with rfl| h
   · rfl
   · exact ZW (q::r) (i+1) x h
theorem ZX (l:List Pt):Ev E 182 [iP l] ⟨.fn 221 [.eptr (iP l) 0],[]⟩:=by
 refine Ev.bU ab9 (aca _) rfl ?_
 (conv=>whnf);repeat' ((first| intro g| refine st ?_| (first| refine b1 ?_ ?_| refine b2 ?_ ?_| refine Br.mk ?_ ?_) <;>intro hc| exact rfl) <;>conv=>whnf)
theorem aaK {l:List Pt} (hl:l.length< 1000000):Ev E 496 [iP l] ⟨vi (Y8 l),[]⟩:=by
 have acI:=ZX l
 refine Ev.bU ab3 (ab4 _) rfl ?_
 (conv=>whnf);repeat' ((first| intro g| refine ag.mk _ (acI) ?_| refine st ?_| (first| refine b1 ?_ ?_| refine b2 ?_ ?_| refine Br.mk ?_ ?_) <;>intro hc| exact rfl) <;>conv=>whnf)
 have hi:E.iter 221 [(iP l).eptr 0]=some (vl 0 (l.map Pt.v)):=by
   show (if (l.map Pt.v).length< 4611686018427387904 then some (vl 0 (l.map Pt.v)) else none)=_
   rw[if_pos (by simp;omega)]
 refine z8.by (vl 0 (l.map Pt.v)) rfl hi (fun x hx=>ZW _ _ x hx) (fun (k:Nat)=> [(48,⟨g,1,false,false,some [vi (Z9 l k)]⟩)]) (fun k a=>a=k) 0 ?_ rfl ?_ ?_
 · (repeat' (first| exact True.intro| refine ai ?_| refine And.intro ?_ ?_))
 · rintro _ x k hx rfl
   rw[zJ] at hx
   cases hp:l[k]? with
   | none=>rw[hp] at hx;cases hx
   | some p=>
   cases hq:l[k+1]? with
   | none=>rw[hp,hq] at hx;cases hx
   | some q=>
   rw[hp,hq] at hx
   injection hx with hx;subst hx
   have oK:=aaw hp hq
   have hsq:=aaW (aaJ p q)
   (conv=>whnf);repeat' ((first| intro g| refine ag.mk _ (abF q p) ?_| refine ag.mk _ (abG _ _) ?_| refine ag.mk _ (hsq) ?_| refine st ?_| (first| refine b1 ?_ ?_| refine b2 ?_ ?_| refine Br.mk ?_ ?_) <;>intro hc| exact rfl) <;>conv=>whnf)
   refine Su.mk (k+1) rfl ?_
   simp only[oK]
   (repeat' (first| exact True.intro| refine ai ?_| refine And.intro ?_ ?_))
 · rintro a rfl
   rw[zI]
   (conv=>whnf);repeat' ((first| intro g| refine st ?_| (first| refine b1 ?_ ?_| refine b2 ?_ ?_| refine Br.mk ?_ ?_) <;>intro hc| exact rfl) <;>conv=>whnf)
end Go.AM
set_option maxRecDepth 20000
namespace Go.AM
theorem Zq {α:Type} (p:α→Bool) (l:List α): (firstIdx p l= -1∧ ∀ (i:Nat) (x:α),l[i]? =some x→p x=false)∨ ∃ (i:Nat) (x:α),firstIdx p l=(i:Int)∧l[i]? =some x∧p x=true∧ ∀ (j:Nat) (y:α),j<i→l[j]? =some y→p y=false:=by
 rcases Zu p l with h| ⟨i,x,h1,h2,h3⟩
 · exact .inl h
 · refine .inr ⟨i,x,h1,h2,h3,?_⟩
   unfold firstIdx at h1
   cases h:l.findIdx? p with
   | none=>rw[h] at h1;simp at h1
   | some k=>
     rw[h] at h1
     rw[List.findIdx?_eq_some_iff_getElem] at h
     obtain⟨hl,hp,kf⟩:=h
     intro j y hj hy
     obtain⟨bT,rfl⟩:=List.getElem?_eq_some_iff.1 hy
     have:k=i:=by simp at h1;omega
     subst this
     simpa using kf j hj
theorem Zo {α:Type} {p:α→Bool} {l:List α} {i:Nat} {x:α} (h:l[i]? =some x): (l.take (i+1)).filter p=(l.take i).filter p++(if p x then [x] else []):=by
 rw[List.take_add_one,h,Option.toList_some,List.filter_append]
 simp[List.filter_cons]
def Yx (g:Nat) (caps:List V) (f:Int→V):Prop:=V.aq caps=true∧gv E g=[]∧ ∀x,Ev E g (vi x::caps) ⟨f x,[]⟩
theorem abH {l:List Int} {g:Nat} {caps:List V} {p:Int→Bool} (hlen:l.length< 1000000) (hc:Yx g caps fun x=> .bool (p x)):Ev E 280 [.lit 1 (l.map vi),.fn g caps] ⟨vi (firstIdx p l),[]⟩:=by
 obtain⟨hc,hm,hp⟩:=hc
 have abI:=iG l
 refine Ev.bU ab7 (ab8 _) rfl ?_
 (conv=>whnf);repeat' ((first| intro g| refine eY.mk (by simp[V.aq,V.aE,hc,abI]) ?_| refine st ?_| (first| refine b1 ?_ ?_| refine b2 ?_ ?_| refine Br.mk ?_ ?_) <;>intro hc| exact rfl) <;>conv=>whnf)
 refine ba.by (fun i:Nat=> ⟨[(0,.lit 1 (l.map vi)),(1,.fn g caps),(7,aF (l.map vi).length),(8,aF i)],[]⟩) (fun i=>i≤l.length∧ ∀ (j:Nat) y,j<i→l[j]? =some y→p y=false) (fun i=>l.length - i) 0 ?_ ?_ ?_
 · (refine⟨?_,?_⟩ <;>repeat' (first| exact True.intro| refine ai ?_| refine And.intro ?_ ?_))
 · simp
 rintro i ⟨hi,kf⟩
 have ed:=hc
 by_cases bk:i<l.length
 · have hx:l[i]? =some l[i]:=aL bk
   have hpx:=hp l[i]
   generalize l[i]=x at hx hpx
   have BI: (l.map vi)[i]? =some (vi x):=by simp[hx]
   (conv=>whnf);repeat' ((first| intro g| refine aH.mk _ (BI) ?_| refine tg (by assumption) (by first| assumption| rfl| (simp only[V.aq,V.aE,Bool.and_self,Bool.true_and,Bool.and_true, *])) (hpx) rfl ?_| refine st ?_| (first| refine b1 ?_ ?_| refine b2 ?_ ?_| refine Br.mk ?_ ?_) <;>intro hc| exact rfl) <;>conv=>whnf)
   · rw[Zt kf hx hc]
   · refine bc.mk (i+1) (by first| omega| (dsimp only;omega)) ?_ (by(refine⟨?_,?_⟩ <;>repeat' (first| exact True.intro| refine ai ?_| refine And.intro ?_ ?_)))
     refine⟨by omega,fun j y hj hy=> ?_⟩
     by_cases e:j=i
     · subst e
       rw[hx] at hy
       injection hy with hy;subst hy;exact hc
     · exact kf j y (by omega) hy
 · (conv=>whnf);repeat' ((first| intro g| refine st ?_| (first| refine b1 ?_ ?_| refine b2 ?_ ?_| refine Br.mk ?_ ?_) <;>intro hc| exact rfl) <;>conv=>whnf)
   rw[firstIdx_none fun j y hy=>kf j y (by have:=(List.getElem?_eq_some_iff.1 hy).1;omega) hy]
def YO (l:List Int) (p:Int→Bool):List Int:=l.filter fun x=> !p x
theorem ZG (l:List Int) (p:Int→Bool): (YO l p).length≤l.length:=List.length_filter_le ..
theorem Zy {l:List Int} {p:Int→Bool} {i:Nat} {x:Int} (h:l[i]? =some x):YO (l.take (i+1)) p=YO (l.take i) p++(if p x then [] else [x]):=by
 unfold YO
 rw[Zo h]
 cases p x<;>rfl
theorem ZH {l:List Int} {p:Int→Bool} (h: ∀ (i:Nat) x,l[i]? =some x→p x=false):YO l p=l:=by
 unfold YO
 rw[List.filter_eq_self]
 intro y hy
 obtain⟨j,hj⟩:=List.mem_iff_getElem?.1 hy
 simp[h j y hj]
set_option maxHeartbeats 1000000 in
theorem aaF {l:List Int} {g:Nat} {caps:List V} {p:Int→Bool} (hl:l.length< 1000000) (mG:Yx g caps fun x=> .bool (p x)): ∃rest:List V,V.aq rest=true∧Ev E 505 [.msl 1 (l.map vi) 0 l.length,.fn g caps] ⟨.sl 0 0 0 (YO l p).length,[(0,(YO l p).map vi++rest)]⟩:=by
 have ZY:=abH hl mG
 obtain⟨hc,hm,hp⟩:=mG
 have Uc:gv E 280=[]:=rfl
 have hKp:V.aq (l.map vi)=true:=iG l
 have MG:V.aq [.lit 1 (l.map vi),.fn g caps]=true:=by simp[V.aq,V.aE,hc,hKp]
 have key:=Ev.cQ (R:=fun r=> ∃ (rest:List V),V.aq rest=true∧r=⟨.sl 0 0 0 (YO l p).length,[(0,(YO l p).map vi++rest)]⟩) ab1 (ab2 [.msl 1 (l.map vi) 0 l.length,.fn g caps]) rfl ?_
 · obtain⟨r,h1,rest,h2,rfl⟩:=key
   exact⟨rest,h2,h1⟩
 rcases Zq p l with⟨h1,h2⟩ | ⟨i0,x0,h1,h2,h3,h4⟩
 · rw[h1] at ZY
   have e:YO l p=l:=ZH h2
   rw[e]
   (conv=>whnf);repeat' ((first| intro g| refine ag.mk _ (ZY) ?_| refine st ?_| (first| refine b1 ?_ ?_| refine b2 ?_ ?_| refine Br.mk ?_ ?_) <;>intro hc| exact rfl| (simp only[List.append,eN,gr,V.aE,hc,cond_true])) <;>conv=>whnf)
   exact⟨[],rfl,by simp⟩
 · rw[ h1] at ZY
   (conv=>whnf);repeat' ((first| intro g| refine ag.mk _ (ZY) ?_| refine st ?_| (first| refine b1 ?_ ?_| refine b2 ?_ ?_| refine Br.mk ?_ ?_) <;>intro hc| exact rfl| (simp only[List.append,eN,gr,V.aE,hc,cond_true])) <;>conv=>whnf)
   have Yb:=(List.getElem?_eq_some_iff.1 h2).1
   have zi:YO (l.take i0) p=l.take i0:=by
     refine ZH fun j y hy=> ?_
     have hji:j<i0:=by
       have:=(List.getElem?_eq_some_iff.1 hy).1
       simp at this;omega
     rw[List.getElem?_take_of_lt hji] at hy
     exact h4 j y hji hy
   refine ba.by (fun ((j,i,es):Nat×Nat×List Int)=> ⟨[(0,.sl 0 0 0 l.length),(1,.fn g caps),(5,vi i),(6,vi j)],[(0,⟨0,1,true,false,some (es.map vi)⟩)]⟩)
     (fun (j,i,es)=>j≤l.length∧i<j∧es.length=l.length∧es.take i=YO (l.take j) p∧es.drop j=l.drop j) (fun (j,_,_)=>l.length - j) (i0+1,i0,l) ?_ ?_ ?_
   · have hw:IntKind.i64.wrap ((i0:Int)+1)=((i0+1:Nat):Int):=wrap64 (by omega) (by omega)
     simp only[hw]
     (refine⟨?_,?_⟩ <;>repeat' (first| exact True.intro| refine ai ?_| refine And.intro ?_ ?_))
   · refine⟨by omega,by omega,rfl,?_,rfl⟩
     rw[Zy h2,zi];simp[h3]
   rintro⟨j,i,es⟩ ⟨hj,vr,bQ,Ia,Xf⟩
   try dsimp only at hj vr bQ Ia Xf
   have lm: (es.map vi).length=es.length:=List.length_map ..
   have ed:=hc
   by_cases bk:j<l.length
   · have hx:l[j]? =some l[j]:=aL bk
     have hpx:=hp l[j]
     generalize l[j]=x at hx hpx
     have hxe:es[j]? =some x:=by
       have h5: (es.drop j)[0]? =(l.drop j)[0]? :=by rw[Xf]
       simpa [List.getElem?_drop,hx] using h5
     have aci: (es.map vi)[j]? =some (vi x):=by simp[hxe]
     have hot:=Zy (p:=p) hx
     have acj:es.drop (j+1)=l.drop (j+1):=by
       have h5: (es.drop j).drop 1=(l.drop j).drop 1:=by rw[Xf]
       simpa [List.drop_drop,Nat.add_comm] using h5
     cases WG:p x with
     | false=>
       have jG: (es.set i x).take (i+1)=YO (l.take (j+1)) p:=by
        rw[hot,←Ia,WG]
        rw[List.take_add_one,List.take_set_of_le (by omega)]
        simp[List.getElem?_set,show i<es.length by omega]
       have acJ: (es.set i x).drop (j+1)=l.drop (j+1):=by
        rw[List.drop_set_of_lt (by omega),acj]
       have e1: (⟨0,1,true,false,some ((es.map vi).set ((i:Nat):Int).toNat (vi x))⟩:Obj)=⟨0,1,true,false,some ((es.set i x).map vi)⟩:=by simp[List.map_set]
       simp only[WG] at hpx
       (conv=>whnf);repeat' ((first| intro g| refine aH.mk _ (aci) ?_| refine tg (by assumption) (by first| assumption| rfl| (simp only[V.aq,V.aE,Bool.and_self,Bool.true_and,Bool.and_true, *])) (hpx) rfl ?_| refine st ?_| (first| refine b1 ?_ ?_| refine b2 ?_ ?_| refine Br.mk ?_ ?_) <;>intro hc| exact rfl) <;>conv=>whnf)
       exact bc.mk (j+1,i+1,es.set i x) (by first| omega| (dsimp only;omega)) ⟨by omega,by omega,by simp[bQ],jG,acJ⟩ (by(refine⟨?_,?_⟩ <;>repeat' (first| exact True.intro| refine And.intro (e1) ?_| refine ai ?_| refine And.intro ?_ ?_)))
     | true=>
       simp only[WG] at hpx
       (conv=>whnf);repeat' ((first| intro g| refine aH.mk _ (aci) ?_| refine tg (by assumption) (by first| assumption| rfl| (simp only[V.aq,V.aE,Bool.and_self,Bool.true_and,Bool.and_true, *])) (hpx) rfl ?_| refine st ?_| (first| refine b1 ?_ ?_| refine b2 ?_ ?_| refine Br.mk ?_ ?_) <;>intro hc| exact rfl) <;>conv=>whnf)
       exact bc.mk (j+1,i,es) (by first| omega| (dsimp only;omega)) ⟨by omega,by omega,bQ,by rw[Ia,hot];simp[WG],acj⟩ (by(refine⟨?_,?_⟩ <;>repeat' (first| exact True.intro| refine ai ?_| refine And.intro ?_ ?_)))
   · obtain rfl:j=l.length:=by omega
     rw[List.take_length] at Ia
     have V9: (YO l p).length=i:=by rw[←Ia];simp;omega
     have hKe:V.aq (es.map vi)=true:=iG es
     (conv=>whnf);repeat' ((first| intro g| refine eY.mk (by first| ((and_intros<;>first| rfl| exact j9 hKe (ka rfl) | exact mV (j9 hKe (ka rfl)) | (simp only[overwrite,List.length_append,List.length_take,List.length_replicate,List.length_drop,List.length_map];omega) | omega)) | fail) ?_| refine st ?_| (first| refine b1 ?_ ?_| refine b2 ?_ ?_| refine Br.mk ?_ ?_) <;>intro hc| exact rfl) <;>conv=>whnf)
     simp only[Int.toNat_natCast,Nat.zero_add,Nat.sub_zero,overwrite,List.append_assoc]
     rw[V9,←List.map_take,Ia]
     exact⟨_,fe (ka rfl) (dp fun y hy=>fb hKe y (List.mem_of_mem_drop hy)),rfl⟩
noncomputable def Y3 (f:Int→Int) (l:List Int):Nat→Int
 | 0=>0
 | k+1=>match l[k]? with
   | some x=>if k=0∨f (Y3 f l k) <f x then x else Y3 f l k
   | none=>Y3 f l k
noncomputable def aak (f:Int→Int) (l:List Int):Int:=Y3 f l l.length
theorem aaa {f:Int→Int} {l:List Int} {k:Nat} {x:Int} (h:l[k]? =some x):Y3 f l (k+1)=if k=0∨f (Y3 f l k) <f x then x else Y3 f l k:=by
 simp only[Y3,h]
theorem Zv {l:List Int} {g:Nat} {caps:List V} {f:Int→Int} (hl:l.length< 1000000) (mG:Yx g caps fun x=>vi (f x)):Ev E 508 [.lit 1 (l.map vi),.fn g caps] ⟨.tuple [vi (aak f l),.bool (decide (0 <l.length))],[]⟩:=by
 obtain⟨hc,hm,hp⟩:=mG
 have abI:=iG l
 refine Ev.bU ab5 (ab6 _) rfl ?_
 (conv=>whnf);repeat' ((first| intro g| refine eY.mk (by simp[V.aq,V.aE,hc,abI]) ?_| refine st ?_| (first| refine b1 ?_ ?_| refine b2 ?_ ?_| refine Br.mk ?_ ?_) <;>intro hc| exact rfl) <;>conv=>whnf)
 refine ba.by (fun k:Nat=> ⟨[(0,.lit 1 (l.map vi)),(1,.fn g caps),(6,vi (Y3 f l k)),(9,.lit 1 (l.map vi)),(10,aF (l.map vi).length),(11,aF k)],[]⟩) (fun k=>k≤l.length) (fun k=>l.length - k) 0 (by(refine⟨?_,?_⟩ <;>repeat' (first| exact True.intro| refine ai ?_| refine And.intro ?_ ?_))) (by omega) ?_
 intro k hk
 try dsimp only at hk
 have ed:=hc
 by_cases bk:k<l.length
 · have hx:l[k]? =some l[k]:=aL bk
   generalize l[k]=x at hx
   have BI: (l.map vi)[k]? =some (vi x):=by simp[hx]
   have h1:=hp x
   have h2:=hp (Y3 f l k)
   have oK:=aaa (f:=f) hx
   by_cases h0:k=0
   · subst h0
     rw[if_pos (.inl rfl)] at oK
     (conv=>whnf);repeat' ((first| intro g| refine aH.mk _ (BI) ?_| refine st ?_| (first| refine b1 ?_ ?_| refine b2 ?_ ?_| refine Br.mk ?_ ?_) <;>intro hc| exact rfl) <;>conv=>whnf)
     refine bc.mk 1 (by first| omega| (dsimp only;omega)) (by omega) ?_
     simp only[oK]
     (refine⟨?_,?_⟩ <;>repeat' (first| exact True.intro| refine ai ?_| refine And.intro ?_ ?_))
   · by_cases BK:f (Y3 f l k) <f x
     · rw[if_pos (.inr BK)] at oK
       (conv=>whnf);repeat' ((first| intro g| refine aH.mk _ (BI) ?_| refine tg (by assumption) (by first| assumption| rfl| (simp only[V.aq,V.aE,Bool.and_self,Bool.true_and,Bool.and_true, *])) (h1) rfl ?_| refine tg (by assumption) (by first| assumption| rfl| (simp only[V.aq,V.aE,Bool.and_self,Bool.true_and,Bool.and_true, *])) (h2) rfl ?_| refine st ?_| (first| refine b1 ?_ ?_| refine b2 ?_ ?_| refine Br.mk ?_ ?_) <;>intro hc| exact rfl) <;>conv=>whnf)
       refine bc.mk (k+1) (by first| omega| (dsimp only;omega)) (by omega) ?_
       simp only[oK]
       (refine⟨?_,?_⟩ <;>repeat' (first| exact True.intro| refine ai ?_| refine And.intro ?_ ?_))
     · rw[if_neg (fun h=>h.elim h0 BK)] at oK
       (conv=>whnf);repeat' ((first| intro g| refine aH.mk _ (BI) ?_| refine tg (by assumption) (by first| assumption| rfl| (simp only[V.aq,V.aE,Bool.and_self,Bool.true_and,Bool.and_true, *])) (h1) rfl ?_| refine tg (by assumption) (by first| assumption| rfl| (simp only[V.aq,V.aE,Bool.and_self,Bool.true_and,Bool.and_true, *])) (h2) rfl ?_| refine st ?_| (first| refine b1 ?_ ?_| refine b2 ?_ ?_| refine Br.mk ?_ ?_) <;>intro hc| exact rfl) <;>conv=>whnf)
       refine bc.mk (k+1) (by first| omega| (dsimp only;omega)) (by omega) ?_
       simp only[oK]
       (refine⟨?_,?_⟩ <;>repeat' (first| exact True.intro| refine ai ?_| refine And.intro ?_ ?_))
 · obtain rfl:k=l.length:=by omega
   (conv=>whnf);repeat' ((first| intro g| refine st ?_| (first| refine b1 ?_ ?_| refine b2 ?_ ?_| refine Br.mk ?_ ?_) <;>intro hc| exact rfl) <;>conv=>whnf)
   simp[aak]
end Go.AM
set_option maxRecDepth 20000
namespace Go.AM
noncomputable def Y9 (es:List Edge) (a b:Int):Nat→Int
 | 0=>0
 | i+1=>match es[i]? with
   | some e=>if b9 a b e=true then EE (Y9 es a b i+Y8 e.line) else Y9 es a b i
   | none=>Y9 es a b i
noncomputable def brd (es:List Edge) (a b:Int):Int:=Y9 es a b es.length
theorem Zz {es:List Edge} {a b:Int} {i:Nat} {e:Edge} (h:es[i]? =some e) (ht:b9 a b e=true):Y9 es a b (i+1)=EE (Y9 es a b i+Y8 e.line):=by
 simp only[Y9,h,if_pos ht]
theorem ZO {es:List Edge} {a b:Int} {i:Nat} {e:Edge} (h:es[i]? =some e) (ht:b9 a b e=false):Y9 es a b (i+1)=Y9 es a b i:=by
 simp only[Y9,h,ht];rfl
def aaE (es:List Edge):Prop:=es.length< 1000000∧ ∀e ∈ es,e.line.length< 1000000
theorem aaL {a b:Int} {e:Edge} (ht:b9 a b e=false): ¬ (e.left=a∧e.right=b∨e.left=b∧e.right=a):=by simpa [b9] using ht
end Go.AM
set_option maxRecDepth 20000
namespace Go.AM
set_option maxHeartbeats 4000000 in
theorem aaM {L:List V} {e:Edge} {i n:Nat} {a b s:Int} {p1 p9:V} {Q:aW→SS→Prop} (he:L[i]? =some e.v) (hn:L.length=n) (hi:i<n) (hb:n< 1000000) (ht:b9 a b e=false)
   (hQ: ∀T' O',SS.Sub ⟨[(0,vi b),(1,p1),(2,.eptr (vi a) 0),(5,vi s),(9,.lit 4 L),(10,aF n),(11,aF (i+1))],[]⟩ ⟨T',O'⟩→Q .normal ⟨T',O'⟩):
   gY E G7 ⟨[(0,vi b),(1,p1),(2,.eptr (vi a) 0),(5,vi s),(9,.lit 4 L),(10,aF n),(11,aF i)],[]⟩ Q:=by
 have ky:=aaL ht
 clear ht
 by_cases h1:e.left=a
 · have h2: ¬e.right=b:=fun h=>ky (.inl ⟨h1,h⟩)
   by_cases h3:e.left=b
   · have h4: ¬e.right=a:=fun h=>ky (.inr ⟨h3,h⟩)
     clear ky
     (conv=>whnf);repeat' ((first| intro g| refine aH.mk _ (he) ?_| refine st ?_| (first| refine b1 ?_ ?_| refine b2 ?_ ?_| refine Br.mk ?_ ?_) <;>intro hc| exact rfl) <;>conv=>whnf)
     exact hQ _ _ (by(refine⟨?_,?_⟩ <;>repeat' (first| exact True.intro| refine ai ?_| refine And.intro ?_ ?_)))
   · clear ky
     (conv=>whnf);repeat' ((first| intro g| refine aH.mk _ (he) ?_| refine st ?_| (first| refine b1 ?_ ?_| refine b2 ?_ ?_| refine Br.mk ?_ ?_) <;>intro hc| exact rfl) <;>conv=>whnf)
     exact hQ _ _ (by(refine⟨?_,?_⟩ <;>repeat' (first| exact True.intro| refine ai ?_| refine And.intro ?_ ?_)))
 · by_cases h3:e.left=b
   · have h4: ¬e.right=a:=fun h=>ky (.inr ⟨h3,h⟩)
     clear ky
     (conv=>whnf);repeat' ((first| intro g| refine aH.mk _ (he) ?_| refine st ?_| (first| refine b1 ?_ ?_| refine b2 ?_ ?_| refine Br.mk ?_ ?_) <;>intro hc| exact rfl) <;>conv=>whnf)
     exact hQ _ _ (by(refine⟨?_,?_⟩ <;>repeat' (first| exact True.intro| refine ai ?_| refine And.intro ?_ ?_)))
   · clear ky
     (conv=>whnf);repeat' ((first| intro g| refine aH.mk _ (he) ?_| refine st ?_| (first| refine b1 ?_ ?_| refine b2 ?_ ?_| refine Br.mk ?_ ?_) <;>intro hc| exact rfl) <;>conv=>whnf)
     exact hQ _ _ (by(refine⟨?_,?_⟩ <;>repeat' (first| exact True.intro| refine ai ?_| refine And.intro ?_ ?_)))
set_option maxHeartbeats 4000000 in
theorem aal {L:List V} {e:Edge} {i n:Nat} {a b s:Int} {p1:V} {Q:aW→SS→Prop} (he:L[i]? =some e.v) (hn:L.length=n) (hi:i<n) (hb:n< 1000000) (ht:b9 a b e=true) (R1:Ev E 496 [iP e.line] ⟨vi (Y8 e.line),[]⟩)
  (hQ: ∀T' O',SS.Sub ⟨[(0,vi b),(1,p1),(2,.eptr (vi a) 0),(5,vi (EE (s+Y8 e.line))),(9,.lit 4 L),(10,aF n),(11,aF (i+1))],[]⟩ ⟨T',O'⟩→Q .normal ⟨T',O'⟩):
  gY E G7 ⟨[(0,vi b),(1,p1),(2,.eptr (vi a) 0),(5,vi s),(9,.lit 4 L),(10,aF n),(11,aF i)],[]⟩ Q:=by
 rcases nY ht with⟨h1,h2⟩ | ⟨h1,h2,h3,h4⟩ | ⟨h1,h3,h4⟩
 all_goals
  clear ht
  (conv=>whnf);repeat' ((first| intro g| refine aH.mk _ (he) ?_| refine ag.mk _ (R1) ?_| refine st ?_| (first| refine b1 ?_ ?_| refine b2 ?_ ?_| refine Br.mk ?_ ?_) <;>intro hc| exact rfl) <;>conv=>whnf)
  exact hQ _ _ (by(refine⟨?_,?_⟩ <;>repeat' (first| exact True.intro| refine ai ?_| refine And.intro ?_ ?_)))
theorem abJ {m:aG} (hl:aaE m.an) (a b:Int):Ev E 507 [vi b,.eptr m.v 0,.eptr (vi a) 0] ⟨vi (brd m.an a b),[]⟩:=by
 refine Ev.bU abj (abk _) rfl ?_
 (conv=>whnf);repeat' ((first| intro g| refine st ?_| (first| refine b1 ?_ ?_| refine b2 ?_ ?_| refine Br.mk ?_ ?_) <;>intro hc| exact rfl) <;>conv=>whnf)
 refine ba.by (fun i:Nat=> ⟨[(0,vi b),(1,.eptr m.v 0),(2,.eptr (vi a) 0),(5,vi (Y9 m.an a b i)),(9,.lit 4 (m.an.map Edge.v)),(10,aF m.an.length),(11,aF i)],[]⟩) (fun i=>i≤m.an.length) (fun i=>m.an.length - i) 0 ?_ (by omega) ?_
 · (refine⟨?_,?_⟩ <;>repeat' (first| exact True.intro| refine And.intro ((by(conv=>whnf);simp[Y9])) ?_| refine ai ?_| refine And.intro ?_ ?_))
 intro i hi
 try dsimp only at hi
 have U1:=hl.1
 by_cases bk:i<m.an.length
 · obtain⟨e,he⟩: ∃e,m.an[i]? =some e:=⟨_,aL bk⟩
   have C6: (m.an.map Edge.v)[i]? =some e.v:=by simp[he]
   have C7: (m.an.map Edge.v).length=m.an.length:=by simp
   cases ht:b9 a b e with
   | false=>
     have hn:=ZO he ht
     refine aaM (p9:= .nils) C6 C7 bk U1 ht fun T' O' hs=>bc.mk (i+1) (by first| omega| (dsimp only;omega)) (by omega) ?_
     simp only[hn]
     exact hs
   | true=>
     have hn:=Zz he ht
     have R1:=aaK (hl.2 e (List.mem_of_getElem? he))
     refine aal C6 C7 bk U1 ht R1 fun T' O' hs=>bc.mk (i+1) (by first| omega| (dsimp only;omega)) (by omega) ?_
     simp only[hn]
     exact hs
 · obtain rfl:i=m.an.length:=by omega
   (conv=>whnf);repeat' ((first| intro g| refine st ?_| (first| refine b1 ?_ ?_| refine b2 ?_ ?_| refine Br.mk ?_ ?_) <;>intro hc| exact rfl) <;>conv=>whnf)
theorem abE {m:aG} (hl:aaE m.an) (a:Int):Yx 507 [.eptr m.v 0,.eptr (vi a) 0] fun b=>vi (brd m.an a b):=
 ⟨by have h0:V.aE m.v=true:=aG.ug false m
     simp only[V.aq,V.aE,h0];rfl,rfl,fun b=>abJ hl a b⟩
def YL (m:aG):V:= .mlit (b5 false m.ah m.ah.length)
theorem aaY {m:aG} (hs:EP m) (a b:Int):Ev E 506 [vi b,.eptr m.v 0,.eptr (YL m) 0,.eptr (vi a) 0] ⟨.bool (decide (jX m a b≠0)),[]⟩:=by
 have hc:=ER false hs a b
 have hm:gv E 501=[]:=rfl
 have hp:V.aq [m.v,YL m,vi a,vi b]=true:=by
  have h0:V.aE m.v=true:=aG.ug false m
  have h1:V.aE (YL m)=true:=tq ..
  simp only[V.aq,h0,h1];rfl
 refine Ev.bU abh (abi _) rfl ?_
 (conv=>whnf);repeat' ((first| refine tg hm hp hc rfl ?_| intro g| refine st ?_| (first| refine b1 ?_ ?_| refine b2 ?_ ?_| refine Br.mk ?_ ?_) <;>intro hc| exact rfl) <;>conv=>whnf)
 all_goals simp
theorem abD {m:aG} (hs:EP m) (a:Int):Yx 506 [.eptr m.v 0,.eptr (YL m) 0,.eptr (vi a) 0] fun b=> .bool (decide (jX m a b≠0)):=
 ⟨by have h0:V.aE m.v=true:=aG.ug false m
     have h1:V.aE (YL m)=true:=tq ..
     simp only[V.aq,V.aE,h0,h1];rfl,rfl,fun b=>aaY hs a b⟩
end Go.AM
