/-
  Texts of the proof: LbI, LbJ, LbL.
-/
import Derived.Test.YtjkmpppkkhbjkaaGreatPc
import Derived.Test.YtjkmpppkkhbjkaaGreatBase
import Derived.Test.YtjkmpppkkhbjkaaGreatPb
import Derived.Test.YtjkmpppkkhbjkaaGreatDd
set_option maxRecDepth 20000
set_option linter.unusedSimpArgs false
set_option linter.unusedVariables false
set_option maxHeartbeats 4000000
namespace Go.AM
def ClI (c:V) (u:Int):Prop:= ∃g caps,c= .fn g caps∧c6 E g=[]∧V.aq caps=true∧Ev E g caps ⟨vi u,[]⟩
theorem Ex {cs:List V} {us:List Int} (hl:cs.length=us.length) (hn:cs.length< 1000000) (h: ∀ (i:Nat) c u,cs[i]? =some c→us[i]? =some u→ClI c u):Ev E 618 [.lit 1 cs] ⟨vi (us.foldl lS 1024),[]⟩:=by
 refine Ev.aT Kq (UT _) rfl ?_
 (conv=>whnf);repeat' ((first| intro g| refine st ?_| (first| refine b1 ?_ ?_| refine b2 ?_ ?_| refine Br.mk ?_ ?_) <;>intro hc| exact rfl) <;>conv=>whnf)
 refine aI.by (fun ((i,w):Nat×Int)=> ⟨[(3,vi w),(6,.lit 1 cs),(7,aC cs.length),(8,aC i)],[]⟩) (fun (i,w)=>i≤cs.length∧w=(us.take i).foldl lS 1024) (fun (i,_)=>cs.length - i) (0,1024) (by(refine⟨?_,?_⟩ <;>repeat' (first| exact True.intro| refine ai ?_| refine And.intro ?_ ?_))) ⟨by simp,by simp⟩ ?_
 rintro⟨i,w⟩ ⟨hi,hw⟩
 try dsimp only at hi hw
 by_cases bp:i<cs.length
 case neg=>
  rw[List.take_of_length_le (by omega)] at hw
  rw[←hw]
  (conv=>whnf);repeat' ((first| intro g| refine st ?_| (first| refine b1 ?_ ?_| refine b2 ?_ ?_| refine Br.mk ?_ ?_) <;>intro hc| exact rfl) <;>conv=>whnf)
 obtain⟨c,eB⟩: ∃c,cs[i]? =some c:=⟨_,aD bp⟩
 obtain⟨u,hu⟩: ∃u,us[i]? =some u:=⟨_,aD (by omega)⟩
 obtain⟨g2,caps,rfl,hm,hp,he⟩:=h i c u eB hu
 have rk:cs[((i:Int)).toNat]? =some (V.fn g2 caps):=by rw[Int.toNat_natCast];exact eB
 have vq:lS w u=(us.take (i+1)).foldl lS 1024:=by rw[dM hu,List.foldl_append,←hw];rfl
 (conv=>whnf);repeat' ((first| intro g| refine aN.mk _ (rk) ?_| refine pZ (by assumption) (by first| assumption| rfl| (simp only[V.aq,V.aB,Bool.and_self,Bool.true_and,Bool.and_true, *])) (he) rfl ?_| refine st ?_| (first| refine b1 ?_ ?_| refine b2 ?_ ?_| refine Br.mk ?_ ?_) <;>intro hc| exact rfl) <;>conv=>whnf)
 exact aE.mk (i+1,lS w u) (by first| omega| (dsimp only;omega)) ⟨by omega,vq⟩ (by(refine⟨?_,?_⟩ <;>repeat' (first| exact True.intro| refine ai ?_| refine And.intro ?_ ?_)))
def xe (v:V) (y:dq):V:= .fn 617 [v,.eptr y.v 0]
theorem HC {σ:St} {C:a9} {r g:Nat} {x y:dq} {o:Obj} (ho:σ.O r=o) (hg:o.gen=g) (bl:o.es=some [x.v]) (k:V→List Nat→Act): (dh 4 (xe (.ptr r g 0 0) y) k).run C σ=(k (xe (.eptr x.v 0) y) [r]).run C σ:=by
 have hx:V.aB x.v=true:=rfl
 have hy:V.aB y.v=true:=rfl
 simp only[xe,dh,V.aB,V.aq,Bool.false_and,Bool.false_eq_true,if_false,iE,Act.run,ho,bl,hg,if_true,List.getElem?_cons_zero,hx,List.append_nil,List.nil_append]
theorem xf {σ:St} {C:a9} {r g:Nat} {x:dq} {o:Obj} (ho:σ.O r=o) (hg:o.gen=g) (bl:o.es=some [x.v]): ∀ (B:List dq) (k:List V→List Nat→Act),∃rs:List Nat,(iE (dh 4) (B.map (xe (.ptr r g 0 0))) k).run C σ=(k (B.map (xe (.eptr x.v 0))) rs).run C σ
 | [],k=> ⟨[],rfl⟩
 | y::B,k=>by
   simp only[List.map_cons,iE]
   rw[HC ho hg bl]
   obtain⟨rs,h⟩:=xf ho hg bl B (fun ct rs=>k (xe (.eptr x.v 0) y::ct) ([r]++rs))
   exact⟨_,h⟩
theorem vu {σ:St} {C:a9} {B:List V}: ∀ {A:List V},V.aq A=true→ ∀ (k:List V→List Nat→Act),(iE (dh 4) (A++B) k).run C σ=(iE (dh 4) B fun cs rs=>k (A++cs) rs).run C σ
 | [],_,k=>rfl
 | a::A,h,k=>by
   simp only[V.aq,Bool.and_eq_true] at h
   simp only[List.cons_append,iE]
   rw[AZ h.1,vu h.2]
   simp only[List.nil_append]
theorem JL {r0 ra g n:Nat} {K:List V→List Nat→List df→Act} {C:a9} {σ:St}: (cS r0 [.sl ra g 0 n] [] 0 K).run C σ=(match (σ.O ra).es with
 | some es=>if (σ.O ra).gen=g∧(σ.O ra).arr=true∧0+n≤es.length then nj (dh 4) (aJ es 0 n) fun xs rs=>K [.lit (σ.O ra).sz xs] ((ra::rs)++[]) [] else .fail
 | none=> .fail:Act).run C σ:=rfl
theorem Ey {S:SS} {Q:KK} {r0 ra r g gx n:Nat} {x:dq} {A:List V} {B:List dq} {oa ob:Obj} {u:Int} (ha:lk S.O ra=some oa) (ga:oa.gen=g) (aa:oa.arr=true) (sa:oa.sz=1) (ea:oa.es=some (A++B.map (xe (.ptr r gx 0 0)))) (hn:n=(A++B.map (xe (.ptr r gx 0 0))).length)
  (hb:lk S.O r=some ob) (gb:ob.gen=gx) (eb:ob.es=some [x.v]) (hA:V.aq A=true) (oU:Ev E 618 [.lit 1 (A++B.map (xe (.eptr x.v 0)))] ⟨vi u,[]⟩) (hQ: ∀rr ww,Q (vi u) S rr ww):NN E (AM.gE E r0 false 618 [.sl ra g 0 n]) S Q:=by
 refine⟨fun σ ho=> ?_⟩
 obtain⟨N,hN⟩:=oU
 have h1:=ho.2 ra _ ha
 have h2:=ho.2 r _ hb
 have key: (AM.gE E r0 false 618 [.sl ra g 0 n]).run (call E N) σ=some (vi u,σ):=by
  have hw:aJ (A++B.map (xe (.ptr r gx 0 0))) 0 n=A++B.map (xe (.ptr r gx 0 0)):=jg hn
  have fin: ∀rs:List Nat,((if apart rs ([].map (fun w:df=>w.r)) &&distinct ([].map (fun w:df=>w.r)) then
      Act.call 618 [.lit 1 (A++B.map (xe (.eptr x.v 0)))] fun res=>
       let go:=cn [] res.outs fun gs=>bT false r0 gs res.val .done
       if (res.val.isScalar || oG r0 false res.val) &&res.outs.all (fun o=>V.bb o.2) then go else b7 rs go
    else .fail):Act).run (call E N) σ=some (vi u,σ):=fun rs=>by
    simp[apart,distinct,Act.run,hN,V.isScalar,cn,bT,V.aB]
  unfold AM.gE
  rw[Kq]
  dsimp only
  rw[show LK.fJ=[] from rfl]
  rw[JL,h1,ea]
  dsimp only
  rw[if_pos ⟨ga,aa,by omega⟩,hw]
  unfold nj
  split
  · rename_i kb
    cases B with
    | nil=>
      simp only[List.map_nil,List.append_nil,sa] at fin ⊢
      exact fin _
    | cons y B=>
      have:=dy kb (xe (.ptr r gx 0 0) y) (by simp)
      simp[xe,V.aB,V.aq] at this
  · rw[vu hA]
    obtain⟨rs,XG⟩:=xf (C:=call E N) h2 gb eb B (fun cs rs=>_)
    rw[XG]
    simp only[sa]
    exact fin _
 exact⟨N,vi u,σ,key,S,ho,hQ _ _⟩
end Go.AM
set_option maxHeartbeats 4000000
namespace Go.AM
def HD (p:Place) (h:bI):V:= .fn 616 [.eptr h.v 0,.eptr p.v 0]
theorem Ez (p:Place) (l:List bI):V.aq (l.map (HD p))=true:=AM.bP (fun _=>rfl) l
theorem Yh {p:Place} {l:List bI} {out:List dq} (hl:l.length< 4000) (ho:out.length< 2000) (oU: ∀h ∈ l,h.fg.length< 1000000):Ev E 618 [.lit 1 (l.map (HD p)++out.map (xe (.eptr (mY p 0).v 0)))] ⟨vi (ji (ki p) out (iq l p.id)),[]⟩:=by
 have h1:=Ex (cs:=l.map (HD p)++out.map (xe (.eptr (mY p 0).v 0))) (us:=l.map (fun h=>jL h p.id)++out.map (fun y=>Dy (ki p) y)) (by simp) (by simp;omega) (fun i c u hc hu=>by
  by_cases hi:i<l.length
  · rw[List.getElem?_append_left (by simpa using hi),List.getElem?_map,aD hi] at hc hu
    simp only[Option.map_some,Option.some.injEq] at hc hu
    subst hc hu
    exact⟨616,_,rfl,rfl,rfl,JJ (oU _ (List.getElem_mem _)) p⟩
  · rw[List.getElem?_append_right (by simpa using hi)] at hc hu
    simp only[List.length_map,List.getElem?_map] at hc hu
    obtain⟨y,hy,rfl⟩:=Option.map_eq_some_iff.1 hc
    rw[hy] at hu
    simp only[Option.map_some,Option.some.injEq] at hu
    subst hu
    have h2:=JK (mY p 0) y
    have e:gG (mY p 0) y=gG y (ki p):=Dw _ _
    rw[e] at h2
    exact⟨617,_,rfl,rfl,rfl,h2⟩)
 have e: (l.map (fun h=>jL h p.id)++out.map (fun y=>Dy (ki p) y)).foldl lS 1024=ji (ki p) out (iq l p.id):=by
  rw[List.foldl_append,List.foldl_map,List.foldl_map];rfl
 rwa [e] at h1
theorem JM {m:bk} {qs:List Place} (hq:Ev E 615 [m.v] ⟨.own 7 (qs.map Place.v),[]⟩) (hqn:qs.length< 1000) {l:List bI} (hl:l.length< 4000) (oU: ∀h ∈ l,h.fg.length< 1000000):Ev E 596 [m.v,.lit 2 (l.map bI.v)] ⟨.own 6 ((fK l qs).map dq.v),[]⟩:=by
 refine Ev.aT Up (Uq _) rfl ?_
 (conv=>whnf);repeat' ((first| intro g| refine ah.mk _ (hq) ?_| refine st ?_| (first| refine b1 ?_ ?_| refine b2 ?_ ?_| refine Br.mk ?_ ?_) <;>intro hc| exact rfl) <;>conv=>whnf)
 refine aI.by (fun ((i,out,g):Nat×List dq×Nat)=> ⟨[(1,.lit 2 (l.map bI.v)),(4,.sl 81 g 0 i),(14,.lit 7 (qs.map Place.v)),(15,aC (qs.map Place.v).length),(16,aC i)],[(81,⟨g,6,true,false,some (out.map dq.v)⟩)]⟩) (fun (i,out,_)=>i≤qs.length∧out=fK l (qs.take i)) (fun (i,_)=>qs.length - i) (0,[],g) (by(refine⟨?_,?_⟩ <;>repeat' (first| exact True.intro| refine ai ?_| refine And.intro ?_ ?_))) ⟨by simp,by simp[fK]⟩ ?_
 clear g
 rintro⟨i,out,g4⟩ ⟨hi,ho⟩
 try dsimp only at hi ho
 have MZ:out.length=i:=by rw[ho,rM];simp;omega
 by_cases bp:i<qs.length
 case neg=>
   rw[List.take_of_length_le (by omega)] at ho
   rw[←ho]
   (conv=>whnf);repeat' ((first| intro g| refine st ?_| (first| refine b1 ?_ ?_| refine b2 ?_ ?_| refine Br.mk ?_ ?_) <;>intro hc| exact rfl) <;>conv=>whnf)
 obtain⟨p,hp⟩: ∃x,qs[i]? =some x:=⟨_,aD bp⟩
 have hr:=Hq p.name
 have dX:fK l (qs.take (i+1))=out++[p9 l out p]:=by rw[dM hp,vr,ho]
 have hc:=Yh (p:=p) (out:=out) hl (by omega) oU
 have D6:p9 l out p=mY p (ji (ki p) out (iq l p.id)):=rfl
 rw[D6] at dX
 generalize ji (ki p) out (iq l p.id)=u at hc dX
 clear oU ho hq D6
 (conv=>whnf);repeat' ((first| intro g| refine aN.mk _ (al hp rfl) ?_| refine ah.mk _ (hr) ?_| refine st ?_| (first| refine b1 ?_ ?_| refine b2 ?_ ?_| refine Br.mk ?_ ?_) <;>intro hc| exact rfl) <;>conv=>whnf)
 rename_i zc jY
 refine aI.by (fun ((k,fz,g8):Nat×Bool×Nat)=> ⟨[(1,.lit 2 (l.map bI.v)),(4,.sl 81 g4 0 i),(14,.lit 7 (qs.map Place.v)),(15,aC (qs.map Place.v).length),(16,aC i),(6,.ptr 112 zc 0 0),(7,.ptr 128 jY 0 0),(8,.sl 145 g8 0 k),(30,.lit 2 (l.map bI.v)),(31,aC (l.map bI.v).length),(32,aC k)],
    [(81,⟨g4,6,true,false,some (out.map dq.v)⟩),(112,⟨zc,7,false,fz,some [p.v]⟩),(128,⟨jY,6,false,false,some [(mY p 0).v]⟩),(145,⟨g8,1,true,false,some ((l.take k).map (HD p))⟩)]⟩) (fun (k,_)=>k≤l.length) (fun (k,_)=>l.length - k) (0,false,g) (by(refine⟨?_,?_⟩ <;>repeat' (first| exact True.intro| refine ai ?_| refine And.intro ?_ ?_))) (by simp) ?_
 clear g
 rintro⟨k,fz,g8⟩ hk
 try dsimp only at hk
 by_cases Ib:k<l.length
 · obtain⟨h,hh⟩: ∃x,l[k]? =some x:=⟨_,aD Ib⟩
   have vq: (l.take k).map (HD p)++[HD p h]=(l.take (k+1)).map (HD p):=by rw[dM hh,List.map_append];rfl
   (conv=>whnf);repeat' ((first| intro g| refine aN.mk _ (al hh rfl) ?_| refine st ?_| (first| refine b1 ?_ ?_| refine b2 ?_ ?_| refine Br.mk ?_ ?_) <;>intro hc| exact rfl) <;>conv=>whnf)
   exact aE.mk (k+1,true,g) (by first| omega| (dsimp only;omega)) (by omega) (by(refine⟨?_,?_⟩ <;>repeat' (first| exact True.intro| refine And.intro (congrArg (fun es=>Obj.mk g 1 true false (some es)) vq) ?_| refine ai ?_| refine And.intro ?_ ?_)))
 obtain rfl:k=l.length:=by omega
 dsimp only
 rw[List.take_length]
 (conv=>whnf);repeat' ((first| intro g| refine st ?_| (first| refine b1 ?_ ?_| refine b2 ?_ ?_| refine Br.mk ?_ ?_) <;>intro hc| exact rfl) <;>conv=>whnf)
 refine aI.by (fun ((k,g8):Nat×Nat)=> ⟨[(1,.lit 2 (l.map bI.v)),(4,.sl 81 g4 0 i),(14,.lit 7 (qs.map Place.v)),(15,aC (qs.map Place.v).length),(16,aC i),(7,.ptr 128 jY 0 0),(8,.sl 145 g8 0 (l.length+k)),(41,.sl 81 g4 0 i),(42,aC i),(43,aC k)],
    [(81,⟨g4,6,true,false,some (out.map dq.v)⟩),(128,⟨jY,6,false,false,some [(mY p 0).v]⟩),(145,⟨g8,1,true,false,some (l.map (HD p)++(out.take k).map (xe (.ptr 128 jY 0 0)))⟩)]⟩) (fun (k,_)=>k≤out.length) (fun (k,_)=>out.length - k) (0,g8) (by(refine⟨?_,?_⟩ <;>repeat' (first| exact True.intro| refine ai ?_| refine And.intro ?_ ?_))) (by simp) ?_
 clear g8
 rintro⟨k,g8⟩ hk
 try dsimp only at hk
 by_cases Ib:k<out.length
 · obtain⟨h,hh⟩: ∃x,out[k]? =some x:=⟨_,aD Ib⟩
   have vq: (l.map (HD p)++(out.take k).map (xe (.ptr 128 jY 0 0)))++[xe (.ptr 128 jY 0 0) h]=l.map (HD p)++(out.take (k+1)).map (xe (.ptr 128 jY 0 0)):=by rw[dM hh,List.map_append,List.append_assoc];rfl
   (conv=>whnf);repeat' ((first| intro g| refine aN.mk _ (al hh rfl) ?_| refine st ?_| (first| refine b1 ?_ ?_| refine b2 ?_ ?_| refine Br.mk ?_ ?_) <;>intro hc| exact rfl) <;>conv=>whnf)
   exact aE.mk (k+1,g) (by first| omega| (dsimp only;omega)) (by omega) (by(refine⟨?_,?_⟩ <;>repeat' (first| exact True.intro| refine And.intro (congrArg (fun es=>Obj.mk g 1 true false (some es)) vq) ?_| refine ai ?_| refine And.intro ?_ ?_)))
 obtain rfl:k=out.length:=by omega
 dsimp only
 rw[List.take_length]
 have oU:=hc
 clear hc
 (conv=>whnf);repeat' ((first| intro g| refine st ?_| (first| refine b1 ?_ ?_| refine b2 ?_ ?_| refine Br.mk ?_ ?_) <;>intro hc| exact rfl| refine Ey (x:=mY p 0) (A:=l.map (HD p)) (B:=out) (ra:=145) (r:=128) rfl rfl rfl rfl rfl (by simp) rfl rfl rfl (Ez p l) oU ?_) <;>conv=>whnf)
 have vq:out.map dq.v++[(mY p u).v]=(out++[mY p u]).map dq.v:=by simp
 exact aE.mk (i+1,out++[mY p u],g) (by first| omega| (dsimp only;omega)) ⟨by omega,dX.symm⟩ (by(refine⟨?_,?_⟩ <;>repeat' (first| exact True.intro| refine And.intro (congrArg (fun es=>Obj.mk g 6 true false (some es)) vq) ?_| refine ai ?_| refine And.intro ?_ ?_)))
end Go.AM
set_option maxHeartbeats 4000000
namespace Go.AM
theorem yy {α:Type} (p:α→Bool) (l:List α): (firstIdx p l= -1∧ ∀ (i:Nat) (x:α),l[i]? =some x→p x=false)∨ ∃ (i:Nat) (x:α),firstIdx p l=(i:Int)∧l[i]? =some x∧p x=true∧ ∀ (j:Nat) (y:α),j<i→l[j]? =some y→p y=false:=by
 rcases bV p l with h| ⟨i,x,h1,h2,h3⟩
 · exact .inl h
 · refine .inr ⟨i,x,h1,h2,h3,?_⟩
   unfold firstIdx at h1
   cases h:l.findIdx? p with
   | none=>rw[h] at h1;simp at h1
   | some k=>
     rw[h] at h1
     rw[List.findIdx?_eq_some_iff_getElem] at h
     obtain⟨hl,hp,eh⟩:=h
     intro j y hj hy
     obtain⟨hjl,rfl⟩:=List.getElem?_eq_some_iff.1 hy
     have:k=i:=by simp at h1;omega
     subst this
     simpa using eh j hj
theorem vv {l:List Place} {i:Nat} {x:Place} (h:l[i]? =some x):named (l.take (i+1))=named (l.take i)++(if x.name=[] then [] else [x]):=by
 rw[dM h]
 by_cases hx:x.name=[]
 · rw[Aq hx,if_pos hx,List.append_nil]
 · rw[xa hx,if_neg hx]
theorem xg {l:List Place} (h: ∀ (i:Nat) x,l[i]? =some x→x.name≠[]):named l=l:=by
 unfold named
 rw[List.filter_eq_self]
 intro x hx
 obtain⟨i,hi⟩:=List.mem_iff_getElem?.1 hx
 exact decide_eq_true (h i x hi)
theorem aaL {l:List Place} (hlen:l.length< 1000): ∃rest,V.aq rest=true∧Ev E 630 [.msl 7 (l.map Place.v) 0 l.length,.fn 631 []] ⟨.sl 0 0 0 (named l).length,[(0,(named l).map Place.v++rest)]⟩:=by
 have key:=Ev.bz (R:=fun r=> ∃rest:List V,V.aq rest=true∧r=⟨.sl 0 0 0 (named l).length,[(0,(named l).map Place.v++rest)]⟩) U7 (U8 [.msl 7 (l.map Place.v) 0 l.length,.fn 631 []]) rfl ?_
 · obtain⟨_,h1,rest,h2,rfl⟩:=key
   exact⟨rest,h2,h1⟩
 have hi:=xL (l:=l) (g:=631) (caps:=[]) (p:=fun p=>decide (p.name=[])) rfl (by omega) (fun x=>xc x) rfl
 rcases yy (fun p:Place=>decide (p.name=[])) l with⟨h1,h2⟩ | ⟨i0,x0,h1,h2,h3,h4⟩
 · rw[h1] at hi
   have hn:named l=l:=xg fun i x h=>by simpa using h2 i x h
   rw[hn]
   (conv=>whnf);repeat' ((first| ((exfalso;omega)) | intro g| refine eA.mk (⟨rfl,rfl,Place.bP _⟩) ?_| refine ah.mk _ (hi) ?_| refine st ?_| (first| refine b1 ?_ ?_| refine b2 ?_ ?_| refine Br.mk ?_ ?_) <;>intro hc| exact rfl) <;>conv=>whnf)
   exact⟨[],rfl,by simp⟩
 rw[h1] at hi
 (conv=>whnf);repeat' ((first| ((exfalso;omega)) | intro g| refine eA.mk (⟨rfl,rfl,Place.bP _⟩) ?_| refine ah.mk _ (hi) ?_| refine st ?_| (first| refine b1 ?_ ?_| refine b2 ?_ ?_| refine Br.mk ?_ ?_) <;>intro hc| exact rfl) <;>conv=>whnf)
 have hi0:=(List.getElem?_eq_some_iff.1 h2).1
 have M1:x0.name=[]:=by simpa using h3
 have vW:named (l.take i0)=l.take i0:=xg fun j y hj=>by
   have hji:j<i0:=by
     have:=(List.getElem?_eq_some_iff.1 hj).1
     simp at this;omega
   rw[List.getElem?_take_of_lt hji] at hj
   simpa using h4 j y hji hj
 refine aI.by (fun ((j,i,es):Nat×Nat×List Place)=> ⟨[(0,.sl 0 0 0 l.length),(1,.fn 631 []),(5,vi i),(6,vi j)],[(0,⟨0,7,true,false,some (es.map Place.v)⟩)]⟩)
   (fun (j,i,es)=>j≤l.length∧i<j∧es.length=l.length∧es.take i=named (l.take j)∧es.drop j=l.drop j) (fun (j,_,_)=>l.length - j) (i0+1,i0,l) (by(refine⟨?_,?_⟩ <;>repeat' (first| exact True.intro| refine ai ?_| refine And.intro ?_ ?_))) ?_ ?_
 · refine⟨by omega,by omega,rfl,?_,rfl⟩
   rw[vv h2,vW];simp[M1]
 rintro⟨j,i,es⟩ ⟨hj,hij,bl,AV,FK⟩
 try dsimp only at hj hij bl AV FK
 have lm: (es.map Place.v).length=es.length:=List.length_map ..
 by_cases bp:j<l.length
 · have hx:l[j]? =some l[j]:=aD bp
   generalize l[j]=x at hx
   have hxe:es[j]? =some x:=by
     have h5: (es.drop j)[0]? =(l.drop j)[0]? :=by rw[FK]
     simpa [List.getElem?_drop,hx] using h5
   have hot:=vv hx
   have hk:=xc x
   have Yi:es.drop (j+1)=l.drop (j+1):=by
     have h5: (es.drop j).drop 1=(l.drop j).drop 1:=by rw[FK]
     simpa [List.drop_drop,Nat.add_comm] using h5
   by_cases D6:x.name=[]
   · have Xq:decide (x.name=[])=true:=decide_eq_true D6
     rw[Xq] at hk
     (conv=>whnf);repeat' ((first| ((exfalso;omega)) | intro g| refine aN.mk _ (al hxe rfl) ?_| refine ah.mk _ (hk) ?_| refine st ?_| (first| refine b1 ?_ ?_| refine b2 ?_ ?_| refine Br.mk ?_ ?_) <;>intro hc| exact rfl) <;>conv=>whnf)
     exact aE.mk (j+1,i,es) (by first| omega| (dsimp only;omega)) ⟨by omega,by omega,bl,by rw[AV,hot];simp[D6],Yi⟩ (by(refine⟨?_,?_⟩ <;>repeat' (first| exact True.intro| refine ai ?_| refine And.intro ?_ ?_)))
   · have Xq:decide (x.name=[])=false:=decide_eq_false D6
     rw[Xq] at hk
     have nR: (es.set i x).take (i+1)=named (l.take (j+1)):=by
      rw[hot,←AV,if_neg D6]
      rw[List.take_add_one,List.take_set_of_le (by omega)]
      simp[List.getElem?_set,show i<es.length by omega]
     have aaM: (es.set i x).drop (j+1)=l.drop (j+1):=by
      rw[List.drop_set_of_lt (by omega),Yi]
     have e1: (⟨0,7,true,false,some ((es.map Place.v).set ((i:Nat):Int).toNat x.v)⟩:Obj)=⟨0,7,true,false,some ((es.set i x).map Place.v)⟩:=by simp[List.map_set]
     (conv=>whnf);repeat' ((first| ((exfalso;omega)) | intro g| refine aN.mk _ (al hxe rfl) ?_| refine ah.mk _ (hk) ?_| refine st ?_| (first| refine b1 ?_ ?_| refine b2 ?_ ?_| refine Br.mk ?_ ?_) <;>intro hc| exact rfl) <;>conv=>whnf)
     exact aE.mk (j+1,i+1,es.set i x) (by first| omega| (dsimp only;omega)) ⟨by omega,by omega,by simp[bl],nR,aaM⟩ (by(refine⟨?_,?_⟩ <;>repeat' (first| exact True.intro| refine And.intro (e1) ?_| refine ai ?_| refine And.intro ?_ ?_)))
 · obtain rfl:j=l.length:=by omega
   rw[List.take_length] at AV
   have MZ: (named l).length=i:=by rw[←AV];simp;omega
   have hKe:V.aq (es.map Place.v)=true:=Place.bP es
   (conv=>whnf);repeat' ((first| intro g| refine eA.mk (by first| ((and_intros<;>first| rfl| exact eG hKe (dz rfl) | exact jJ (eG hKe (dz rfl)) | (simp only[overwrite,List.length_append,List.length_take,List.length_replicate,List.length_drop,List.length_map];omega) | omega)) | fail) ?_| refine st ?_| (first| refine b1 ?_ ?_| refine b2 ?_ ?_| refine Br.mk ?_ ?_) <;>intro hc| exact rfl) <;>conv=>whnf)
   simp only[Int.toNat_natCast,Nat.zero_add,Nat.sub_zero,overwrite,List.append_assoc]
   rw[MZ,←List.map_take,AV]
   exact⟨_,bn (dz rfl) (cD fun y hy=>dy hKe y (List.mem_of_mem_drop hy)),rfl⟩
theorem xh {m:bk} (hm:m.au.length< 20):Ev E 615 [m.v] ⟨.own 7 ((cU m.au).map Place.v),[]⟩:=by
 have hc:=DE m.au (by omega)
 obtain⟨rest,eK,hd⟩:=aaL (l:=m.au) (by omega)
 have kJ:Ev E 630 [.msl 7 (m.au.map Place.v) 0 (m.au.map Place.v).length,.fn 631 []] ⟨.sl 0 0 0 (named m.au).length,[(0,(named m.au).map Place.v++rest)]⟩:=by rw[List.length_map];exact hd
 have hs:=Yg (l0:=named m.au) (rest:=rest) eK (by have: (named m.au).length≤m.au.length:=List.length_filter_le _ _;omega)
 have XI: (cU m.au).length=(named m.au).length:=dt eC _
 have e1:fh eC (named m.au)=cU m.au:=rfl
 rw[e1] at hs
 rw[←XI] at kJ hs
 generalize cU m.au=qs at*
 refine Ev.aT UP (UQ _) rfl ?_
 have lm: (qs.map Place.v).length=qs.length:=List.length_map ..
 have hw:aJ (qs.map Place.v++rest) 0 qs.length=qs.map Place.v:=by unfold aJ;rw[List.drop_zero,List.take_append_of_le_length (by simp),List.take_of_length_le (by simp)]
 (conv=>whnf);repeat' ((first| intro g| refine eA.mk (by first| ((and_intros<;>first| rfl| exact bn (Place.bP _) eK| exact jJ (bn (Place.bP _) eK) | omega| (simp only[List.length_append,List.length_map];omega))) | fail) ?_| refine ah.mk _ (hc) ?_| refine ah.mk _ (kJ) ?_| refine ah.mk _ (hs) ?_| refine st ?_| (first| refine b1 ?_ ?_| refine b2 ?_ ?_| refine Br.mk ?_ ?_) <;>intro hc| exact rfl) <;>conv=>whnf)
 rw[hw]
theorem HE {m:bk} (hm:m.au.length< 20) {l:List bI} (hl:l.length< 4000) (oU: ∀h ∈ l,h.fg.length< 1000000):Ev E 596 [m.v,.lit 2 (l.map bI.v)] ⟨.own 6 ((fK l (cU m.au)).map dq.v),[]⟩:=
 JM (xh hm) (by have:=jA m.au;omega) hl oU
end Go.AM
