/- Texts of the proof. -/
import Derived.Test.YtdldmebldkgcnaaGreatGak
set_option maxRecDepth 20000
set_option maxHeartbeats 4000000
set_option linter.unusedSimpArgs false
set_option linter.unusedVariables false
namespace Go.AM
theorem V7 {p:Place} (h:OH p):qF p.x p.y=true:=by
 unfold qF
 have:=h.1
 rw[Bool.and_eq_true,decide_eq_true_eq,decide_eq_true_eq]
 omega
theorem KS {ls:List (List Int)} (hs:qf ls):Ev E 589 [eQ ls] ⟨.bool true,[]⟩:=by
 have Fv:=r4
 obtain⟨m,hN,oy⟩:=vG hs
 obtain⟨l,hl,kY,iO⟩:=zA hN.bd
 have hP:=hN.bd.p
 have Bj:=qH (m:=m) abV (l:=l) abV (fun h hx=>by have:=(kY h hx).1;omega)
 have hlen: (cn l (bX m.az)).length=m.az.length:=by rw[lS];exact nj hN.named
 have ZH:= @SG l (bX m.az) (fun p hp=>V7 (hN.ok p ((Bg hN.named p).1 hp)))
 obtain⟨L,hL⟩: ∃L,L=cn l (bX m.az):=⟨_,rfl⟩
 rw[←hL] at Bj hlen ZH
 clear hL
 obtain⟨es,fs,ws,ps⟩:=m
 dsimp only at hP hlen Bj
 have Xp:L.length< 1000000:=abV
 refine Ev.EM rfl rfl rfl ?_
 refine WS.cut 5 (fun _:Unit=> ⟨[(3,.bool true),(5,.lit 2 (l.map dn.v)),(6,.lit 6 (L.map dj.v))],[]⟩) (fun _=>True) ?_ ?_
 ·unfold aI.vo at oy
  conv=>whnf
  repeat' (first| intro g| apply ca Fv| apply ca oy| apply ca iO| apply ca Bj| refine st ?_| refine br ?_ ?_<;>intro hc| rfl) <;>conv=>whnf
  exact oX.mk () trivial su
 rintro _ -
 clear Fv oy iO Bj hN
 refine WS.of ?_
 conv=>whnf
 repeat' (first| intro g| refine st ?_| refine br ?_ ?_<;>intro hc| rfl) <;>conv=>whnf
 refine aL.by (fun i:Nat=> ⟨[(3,.bool true),(5,.lit 2 (l.map dn.v)),(6,.lit 6 (L.map dj.v)),(7,av i)],[]⟩) (fun i=>i≤L.length) (fun i=>L.length - i) 0 su abV ?_
 rintro i hi
 by_cases Cw:i<L.length
 case neg=> (conv=>whnf);repeat' ((first| ((exfalso;omega)) | intro g| refine st ?_| refine br ?_ ?_<;>intro hc| rfl) <;>conv=>whnf)
 obtain⟨x,hx⟩: ∃x,L[i]? =some x:=⟨_,aH Cw⟩
 obtain⟨⟨u0,u9⟩,ac8⟩:=ZH hx
 clear ZH
 obtain⟨KT,xx,xy,xr,xt,u⟩:=x
 dsimp only at u0 u9 ac8
 conv=>whnf
 repeat' (first| ((exfalso;omega)) | intro g| refine wi (aq hx rfl) ?_| refine st ?_| refine br ?_ ?_<;>intro hc| rfl) <;>conv=>whnf
 refine aL.by (fun ((j,w):Nat×Bool)=> ⟨[(3,.bool true),(5,.lit 2 (l.map dn.v)),(6,.lit 6 (L.map dj.v)),(7,av i),(8,vi u),(9,.bool w),(10,av j)],[]⟩)
  (fun (j,w)=>j≤l.length∧(u=1024→w=true)∧ ∀h ∈ l.take j,u=gL h KT→w=true) (fun (j,_)=>l.length - j) (0,decide (u=1024)) su ⟨abV,fun h=>decide_eq_true h,abW⟩ ?_
 rintro⟨j,w⟩ ⟨hj,hw,hh⟩
 try dsimp only at hj hw hh
 by_cases E2:j<l.length
 ·obtain⟨h,hg⟩: ∃h,l[j]? =some h:=⟨_,aH E2⟩
  obtain⟨YO,UA⟩:=kY h (List.mem_of_getElem? hg)
  have Nd:=Mr (h:=h) abV KT
  have OA:=jv hg
  have xw: ∀w':Bool,(w=true→w'=true)→(u=gL h KT→w'=true)→ ∀g ∈ l.take (j+1),u=gL g KT→w'=true:=by
    intro w' k1 k2 g Cz hu
    rw[OA] at Cz
    rcases ai6.1 Cz with Cz| Cz
    ·exact k1 (hh g Cz hu)
    ·rw[ajC.1 Cz] at hu;exact k2 hu
  rcases cI (HP KT) h.evs with⟨hk,_⟩ | ⟨n,e,hk,hxe,_⟩
  · have hk:pL h KT= -1:=hk
    rw[hk] at Nd
    have pN:=AX hk
    cases w with
    | true=>
      conv=>whnf
      repeat' (first| ((exfalso;omega)) | intro g| refine wi (aq hg rfl) ?_| refine wi (aq hx rfl) ?_| apply ca Nd| refine st ?_| refine br ?_ ?_<;>intro hc| rfl) <;>conv=>whnf
      exact aK.mk (j+1,true) om ⟨abV,fun _=>rfl,fun _ _ _=>rfl⟩ su
    | false=>
      conv=>whnf
      repeat' (first| ((exfalso;omega)) | intro g| refine wi (aq hg rfl) ?_| refine wi (aq hx rfl) ?_| apply ca Nd| refine st ?_| refine br ?_ ?_<;>intro hc| rfl) <;>conv=>whnf
      exact aK.mk (j+1,false) om ⟨abV,hw,xw false (fun h=>h) (fun h=>hw (by rw[h,pN]))⟩ su
  have hk:pL h KT=n:=hk
  have aiA:=(aiS.1 hxe).1
  have lme: (h.evs.map Event.v).length=h.evs.length:=List.length_map ..
  cases n with
  | zero=>
    rw[hk] at Nd
    have pN:=AY hk
    cases w with
    | true=>
      conv=>whnf
      repeat' (first| ((exfalso;omega)) | intro g| refine wi (aq hg rfl) ?_| refine wi (aq hx rfl) ?_| apply ca Nd| refine st ?_| refine br ?_ ?_<;>intro hc| rfl) <;>conv=>whnf
      exact aK.mk (j+1,true) om ⟨abV,fun _=>rfl,fun _ _ _=>rfl⟩ su
    | false=>
      conv=>whnf
      repeat' (first| ((exfalso;omega)) | intro g| refine wi (aq hg rfl) ?_| refine wi (aq hx rfl) ?_| apply ca Nd| refine st ?_| refine br ?_ ?_<;>intro hc| rfl) <;>conv=>whnf
      exact aK.mk (j+1,decide (u=0)) om ⟨abV,fun h=>absurd (hw h) abW,xw _ (fun h=>absurd h abW) (fun h=>decide_eq_true (by rw[h,pN]))⟩ su
  | succ n=>
    obtain⟨y,hy⟩: ∃y,h.evs[n]? =some y:=⟨_,aH abV⟩
    have kj:=UA y (List.mem_of_getElem? hy)
    unfold HQ at kj
    have pN:gL h KT=y.at_:=by rw[AZ hk hy,if_neg abV]
    have w1:IntKind.i64.wrap (((n+1:Nat):Int) - 1)=(n:Int):=wt
    rw[hk] at Nd
    cases w with
    | true=>
      conv=>whnf
      repeat' (first| ((exfalso;omega)) | intro g| refine wi (aq hg rfl) ?_| refine wi (aq hx rfl) ?_| apply ca Nd| refine st ?_| refine br ?_ ?_<;>intro hc| rfl) <;>conv=>whnf
      exact aK.mk (j+1,true) om ⟨abV,fun _=>rfl,fun _ _ _=>rfl⟩ su
    | false=>
      conv=>whnf
      repeat' (first| ((exfalso;omega)) | intro g| refine wi (aq hg rfl) ?_| refine wi (aq hx rfl) ?_| refine wi (aq hy w1) ?_| apply ca Nd| refine st ?_| refine br ?_ ?_<;>intro hc| rfl) <;>conv=>whnf
      ·exact aK.mk (j+1,true) om ⟨abV,fun _=>rfl,fun _ _ _=>rfl⟩ su
      ·rename_i hc
       exact aK.mk (j+1,false) om ⟨abV,hw,xw false (fun h=>h) (fun h=>absurd (by rw[h,pN]) hc)⟩ su
 have SX: (u=1024∨ ∃h ∈ l,u=gL h KT)→w=true:=by
  rintro(h| ⟨h,h1,h2⟩)
  ·exact hw h
  ·exact hh h (by rw[List.take_of_length_le abV];exact h1) h2
 clear hw hh
 conv=>whnf
 repeat' (first| ((exfalso;omega)) | intro g| refine st ?_| refine br ?_ ?_<;>intro hc| rfl) <;>conv=>whnf
 refine aL.by (fun ((k,w):Nat×Bool)=> ⟨[(3,.bool true),(5,.lit 2 (l.map dn.v)),(6,.lit 6 (L.map dj.v)),(7,av i),(8,vi u),(9,.bool w),(12,av k)],[]⟩)
  (fun (k,w)=>k≤i∧((u=1024∨ ∃h ∈ l,u=gL h KT)→w=true)∧ ∀ (j:Nat) (y:dj),j<k→L[j]? =some y→u<y.iG→my y ⟨KT,xx,xy,xr,xt,u⟩ ((u+1)*(u+1))=true→w=true) (fun (k,_)=>i - k) (0,w) su ⟨abV,SX,fun j y h=>absurd h abV⟩ ?_
 clear SX E2 hj
 rintro⟨k,w⟩ ⟨hk,h1,h2⟩
 try dsimp only at hk h1 h2
 by_cases NC:k<i
 ·obtain⟨y,hy⟩: ∃y,L[k]? =some y:=⟨_,aH abV⟩
  have xw: ∀w':Bool,(w=true→w'=true)→(u<y.iG→my y ⟨KT,xx,xy,xr,xt,u⟩ ((u+1)*(u+1))=true→w'=true)→ ∀ (j:Nat) (z:dj),j<k+1→L[j]? =some z→u<z.iG→my z ⟨KT,xx,xy,xr,xt,u⟩ ((u+1)*(u+1))=true→w'=true:=by
    intro w' k1 k2 j z hj hz hu hm
    by_cases e:j=k
    ·subst e;rw[hy] at hz;injection hz with hz;subst hz;exact k2 hu hm
    ·exact k1 (h2 j z abV hz hu hm)
  cases w with
  | true=>
    conv=>whnf
    repeat' (first| ((exfalso;omega)) | intro g| refine wi (aq hy rfl) ?_| refine wi (aq hx rfl) ?_| refine st ?_| refine br ?_ ?_<;>intro hc| rfl) <;>conv=>whnf
    exact aK.mk (k+1,true) om ⟨abV,fun _=>rfl,fun _ _ _ _ _ _=>rfl⟩ su
  | false=>
    by_cases hu:u<y.iG
    · have hm:=vu y ⟨KT,xx,xy,xr,xt,u⟩ ((u+1)*(u+1))
      have Xu:0≤(u+1)*(u+1):=ajE abV abV
      have ET: (u+1)*(u+1)≤1025*1025:=aka abV abV abV abV
      have GL:IntKind.i64.wrap (IntKind.i64.wrap (u+1)*IntKind.i64.wrap (u+1))=(u+1)*(u+1):=by
       rw[wrap64 (n:=u+1) abV abV,wrap64 abV abV]
      rw[←GL] at hm
      rw[←GL] at xw
      generalize hb:my y ⟨KT,xx,xy,xr,xt,u⟩ (IntKind.i64.wrap (IntKind.i64.wrap (u+1)*IntKind.i64.wrap (u+1)))=b at*
      rw[GL] at xw
      clear Xu ET
      conv=>whnf
      repeat' (first| ((exfalso;omega)) | intro g| refine wi (aq hy rfl) ?_| refine wi (aq hx rfl) ?_| apply ca hm| refine st ?_| refine br ?_ ?_<;>intro hc| rfl) <;>conv=>whnf
      exact aK.mk (k+1,b) om ⟨abV,fun h=>absurd (h1 h) abW,xw b (fun h=>absurd h abW) (fun _ h=>h)⟩ su
    · conv=>whnf
      repeat' (first| ((exfalso;omega)) | intro g| refine wi (aq hy rfl) ?_| refine wi (aq hx rfl) ?_| refine st ?_| refine br ?_ ?_<;>intro hc| rfl) <;>conv=>whnf
      exact aK.mk (k+1,false) om ⟨abV,h1,xw false (fun h=>h) (fun h=>absurd h hu)⟩ su
 have hwt:w=true:=by
  rcases ac8 with h| h| ⟨j,y,hj,hy,hu,hm⟩
  ·exact h1 (.inl h)
  ·exact h1 (.inr h)
  ·exact h2 j y abV hy hu hm
 subst hwt
 conv=>whnf
 repeat' (first| ((exfalso;omega)) | intro g| refine st ?_| refine br ?_ ?_<;>intro hc| rfl) <;>conv=>whnf
 exact aK.mk (i+1) om (by show i+1≤_;omega) su
end Go.AM
