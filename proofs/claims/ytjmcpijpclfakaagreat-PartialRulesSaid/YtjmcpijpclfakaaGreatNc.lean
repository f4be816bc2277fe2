/-
  Texts of the proof: PSimR4n, PSimR4l.
-/
import Derived.Test.YtjmcpijpclfakaaGreatKa
import Derived.Test.YtjmcpijpclfakaaGreatB
set_option maxRecDepth 20000
set_option maxHeartbeats 4000000
set_option linter.unusedSimpArgs false
set_option linter.unusedVariables false
namespace Go.AM
theorem Ps {x y:Ex} {l:List Ex} (hl:l=[x,y]) {Bx By:Bd} {sv:V} {S:Ex→Ex} {t:Int} {val:Va} {var:Int} {nl:Bool} {vv:V} (eN:Sv sv) (hlen:l.length< 1000000)
   (dj:Ev E 341 [(Ex.mk 4 var val nl l).v] ⟨.tuple [vi t,vi 0],[]⟩) (bE:Ev E 345 [(Ex.mk 4 var val nl l).v,vi t,sv] ⟨vv,[]⟩) (fR:jq none vv)
   (fH:Ev E 334 [(Ex.mk 4 var val nl l).v] ⟨(Ex.mk 4 var val nl l).norm.ov,[]⟩)
   (gL:Ev E 342 [x.v,sv] ⟨.tuple [vi Bx.lo,vi Bx.hi],[]⟩) (km:Ev E 342 [y.v,sv] ⟨.tuple [vi By.lo,vi By.hi],[]⟩)
   (ih: ∀x ∈ l,∃r,Ev E 321 [x.v,sv] ⟨r,[]⟩∧iq (S x) r) (q1: ¬Bx.lo=1) (q2: ¬By.lo=1) (xo:sv= .nils): ∃r,Ev E 321 [(Ex.mk 4 var val nl l).v,sv] ⟨r,[]⟩∧iq (ba none 4 var val [Bx,By] (l.map S)) r:=by
 obtain⟨Xe,rfl,_⟩:=fR
 have cm:aD E 342=[]:=rfl
 have gR:aD E 345=[]:=rfl
 have lX:aD E 321=[]:=rfl
 obtain⟨a0,b0,c0,d0,e0,f0,L0,fB,fY⟩:=Xe.br
 rw[fB] at bE
 have hP:V.aj (.tuple [.agg [vi a0,vi b0,vi c0,vi d0,.bool e0,.str f0,L0],.bool (none:Option Ex).isSome])=true:=by
   simp only[V.aj,V.ae,Bool.and_eq_true] at fY ⊢
   simp[fY]
 have cu:0 <l.length:=by rw[hl];simp
 have sr:l.length=2:=by rw[hl];rfl
 have lm: (l.map Ex.v).length=2:=by rw[List.length_map,sr]
 have hx:l[0]? =some x:=by rw[hl];rfl
 obtain⟨rx,hex,uk⟩:=ih x (by rw[hl];simp)
 have xx:=fun r k=>uk.imp r k
 obtain⟨Hx,Hy,Hz,HA,HB,HC,tW,fD,gX⟩:=x.br
 rw[fD] at gL hex
 have hy:l[1]? =some y:=by rw[hl];rfl
 obtain⟨ry,pO,um⟩:=ih y (by rw[hl];simp)
 have wK:=fun r k=>um.imp r k
 obtain⟨HD,HE,HF,HG,HH,HI,xL,gi,kR⟩:=y.br
 rw[gi] at km pO
 have rn:lv nl (l.map Ex.v)= .lit 7 (l.map Ex.v):=by
   cases l with
   | nil=>simp at cu
   | cons y ys=>rfl
 have sw: (Ex.mk 4 var val nl l).norm.ov= .agg [vi 4,vi var,vi val.t,vi val.n,.bool val.b,.str val.s,.own 7 ((l.map Ex.norm).map Ex.v)]:=by
   cases l with
   | nil=>simp at cu
   | cons y ys=>simp only[Ex.norm,Ex.dO,Ex.ov];rfl
 rw[sw] at fH
 rw[Ex.bN,rn] at dj bE fH ⊢
 have fS: ∀w,V.aj w=true→V.ae [.agg [vi 4,vi var,vi val.t,vi val.n,.bool val.b,.str val.s,.lit 7 (l.map Ex.v)],vi t,w]=true:=fun w h=>by simp only[V.ae,h,Bool.and_self,Bool.and_true];rfl
 have hR:ba none 4 var val [Bx,By] (l.map S)=Ex.mk 4 var val true (l.map S):=by simp[hl,ba,pick,q1,q2]
 rw[hR]
 subst xo
 refine xu ?_
 refine Ev.jC (R:=fun r=> ∃v,r=⟨v,[]⟩∧iq (Ex.mk 4 var val true (l.map S)) v) kE (kF _) rfl ?_
 (conv=>whnf);repeat' ((first| intro g| refine bD.mk _ (aA hx fD rfl) ?_| refine bD.mk _ (aA hy gi rfl) ?_| refine av.mk _ (dj) ?_| refine av.mk _ (fH) ?_| refine st ?_| (first| refine b1 ?_ ?_| refine b2 ?_ ?_| refine Br.mk ?_ ?_) <;>intro hc| exact rfl| ((refine av.mk _ bE ?_;simp only[cM,bC,hP,cond_true,List.append_nil])) | refine aq cm (aQ gX rfl) gL rfl ?_| refine aq cm (aQ kR rfl) km rfl ?_) <;>conv=>whnf)
 rename_i ed gj xy gA
 obtain⟨lI,gE⟩: ∃x,x=g:=⟨_,rfl⟩
 rw[←gE];clear gE
 refine bj.by (fun ((i,L):Nat×List Ex)=> ⟨[(1,.nils),(2,.ptr 48 ed 0 0),(4,.ptr 80 gj 0 0),(9,.ptr 160 lI 0 0),(12,aO i)],
    [(80,⟨gj,7,false,false,some [.agg [vi 0,vi 0,vi 0,vi 0,.bool false,.str [],.lit 7 []]]⟩),(48,⟨ed,7,false,false,some [.agg [vi 4,vi var,vi val.t,vi val.n,.bool val.b,.str val.s,.lit 7 (l.map Ex.v)]]⟩),(160,⟨lI,7,false,false,some [.agg [vi 4,vi var,vi val.t,vi val.n,.bool val.b,.str val.s,.sl 534 gA 0 l.length]]⟩),(534,⟨gA,7,true,false,some (L.map Ex.v)⟩)]⟩)
   (fun (i,L)=>i≤l.length∧L=(l.take i).map S++(l.drop i).map Ex.norm) (fun (i,_)=>l.length - i) (0,l.map Ex.norm) (by(refine⟨?_,?_⟩ <;>repeat' (first| exact True.intro| refine ai ?_| refine And.intro ?_ ?_))) ⟨by simp,by simp⟩ ?_
 rintro⟨i,L⟩ ⟨hi,hL⟩
 try dsimp only at hi hL
 have Gd:L.length=l.length:=by rw[hL];simp;omega
 have sU: (L.map Ex.v).length=l.length:=by rw[List.length_map,Gd]
 by_cases bY:i<l.length
 · obtain⟨u,hu⟩: ∃u,l[i]? =some u:=⟨_,bp bY⟩
   obtain⟨ru,nX,yV⟩:=ih u (List.mem_of_getElem? hu)
   have ng:=fun r k=>yV.imp r k
   have re:L.set i (S u)=(l.take (i+1)).map S++(l.drop (i+1)).map Ex.norm:=by
    have h1: (l.drop i).map Ex.norm=u.norm:: (l.drop (i+1)).map Ex.norm:=by
     rw[List.drop_eq_getElem_cons bY,List.map_cons]
     congr 2
     exact(List.getElem?_eq_some_iff.1 hu).2
    rw[hL,h1,List.take_add_one,hu,List.set_append_right _ _ (by simp;omega)]
    simp
    rw[show i - min i l.length=0 by omega]
    rfl
   obtain⟨u0,A7⟩: ∃u0,L[i]? =some u0:=⟨_,bp (by omega)⟩
   obtain⟨a7,b7,c7,d7,e7,f7,M7,Ge,W2⟩:=u0.br
   obtain⟨a9,b9,c9,d9,e9,f9,M9,mS,vN⟩:=u.br
   rw[mS] at nX
   obtain⟨a8,b8,c8,d8,e8,f8,M8,gl,lH⟩:=(S u).form
   rw[gl] at ng
   have e1: ∀w,(S u).v=w→(⟨gA,7,true,false,some ((L.map Ex.v).set ((i:Nat):Int).toNat w)⟩:Obj)=⟨gA,7,true,false,some ((L.set i (S u)).map Ex.v)⟩:=fun w hw=>by rw[←hw];simp[List.map_set]
   rcases lH with rfl| ⟨us,rfl⟩
   all_goals
    (conv=>whnf);repeat' ((first| intro g| refine bD.mk _ (aA hu mS rfl) ?_| refine bD.mk _ (aA A7 Ge rfl) ?_| refine st ?_| (first| refine b1 ?_ ?_| refine b2 ?_ ?_| refine Br.mk ?_ ?_) <;>intro hc| exact rfl| refine bc lX (aQ vN rfl) nX ng ?_) <;>conv=>whnf)
    exact bk.mk (i+1,L.set i (S u)) (by first| omega| (dsimp only;omega)) ⟨(by first| omega| (dsimp only;omega)),re⟩ (by(refine⟨?_,?_⟩ <;>repeat' (first| exact True.intro| refine And.intro (e1 _ gl) ?_| refine ai ?_| refine And.intro ?_ ?_)))
 · have gP:i=l.length:=by omega
   subst gP
   rw[List.take_length,List.drop_length,List.map_nil,List.append_nil] at hL
   have lZ:0+l.length≤(L.map Ex.v).length:=by rw[sU];omega
   (conv=>whnf);repeat' ((first| intro g| refine bU.mk (⟨lZ,Ex.bq _⟩) ?_| refine st ?_| (first| refine b1 ?_ ?_| refine b2 ?_ ?_| refine Br.mk ?_ ?_) <;>intro hc| exact rfl) <;>conv=>whnf)
   exact⟨_,rfl,ir cu hL⟩
end Go.AM
namespace Go.AM
theorem Pu {x y:Ex} {l:List Ex} (hl:l=[x,y]) {Bx By:Bd} {sv:V} {S:Ex→Ex} {t:Int} {val:Va} {var:Int} {nl:Bool} {vv:V} (eN:Sv sv) (hlen:l.length< 1000000)
   (dj:Ev E 341 [(Ex.mk 4 var val nl l).v] ⟨.tuple [vi t,vi 0],[]⟩) (bE:Ev E 345 [(Ex.mk 4 var val nl l).v,vi t,sv] ⟨vv,[]⟩) (fR:jq none vv)
   (fH:Ev E 334 [(Ex.mk 4 var val nl l).v] ⟨(Ex.mk 4 var val nl l).norm.ov,[]⟩)
   (gL:Ev E 342 [x.v,sv] ⟨.tuple [vi Bx.lo,vi Bx.hi],[]⟩) (km:Ev E 342 [y.v,sv] ⟨.tuple [vi By.lo,vi By.hi],[]⟩)
   (ih: ∀x ∈ l,∃r,Ev E 321 [x.v,sv] ⟨r,[]⟩∧iq (S x) r) (q1: ¬Bx.lo=1) (q2: ¬By.lo=1) {ks:List V} (xo:sv= .lit 4 ks): ∃r,Ev E 321 [(Ex.mk 4 var val nl l).v,sv] ⟨r,[]⟩∧iq (ba none 4 var val [Bx,By] (l.map S)) r:=by
 obtain⟨Xe,rfl,_⟩:=fR
 have cm:aD E 342=[]:=rfl
 have gR:aD E 345=[]:=rfl
 have lX:aD E 321=[]:=rfl
 obtain⟨a0,b0,c0,d0,e0,f0,L0,fB,fY⟩:=Xe.br
 rw[fB] at bE
 have hP:V.aj (.tuple [.agg [vi a0,vi b0,vi c0,vi d0,.bool e0,.str f0,L0],.bool (none:Option Ex).isSome])=true:=by
   simp only[V.aj,V.ae,Bool.and_eq_true] at fY ⊢
   simp[fY]
 have cu:0 <l.length:=by rw[hl];simp
 have sr:l.length=2:=by rw[hl];rfl
 have lm: (l.map Ex.v).length=2:=by rw[List.length_map,sr]
 have hx:l[0]? =some x:=by rw[hl];rfl
 obtain⟨rx,hex,uk⟩:=ih x (by rw[hl];simp)
 have xx:=fun r k=>uk.imp r k
 obtain⟨Hx,Hy,Hz,HA,HB,HC,tW,fD,gX⟩:=x.br
 rw[fD] at gL hex
 have hy:l[1]? =some y:=by rw[hl];rfl
 obtain⟨ry,pO,um⟩:=ih y (by rw[hl];simp)
 have wK:=fun r k=>um.imp r k
 obtain⟨HD,HE,HF,HG,HH,HI,xL,gi,kR⟩:=y.br
 rw[gi] at km pO
 have rn:lv nl (l.map Ex.v)= .lit 7 (l.map Ex.v):=by
   cases l with
   | nil=>simp at cu
   | cons y ys=>rfl
 have sw: (Ex.mk 4 var val nl l).norm.ov= .agg [vi 4,vi var,vi val.t,vi val.n,.bool val.b,.str val.s,.own 7 ((l.map Ex.norm).map Ex.v)]:=by
   cases l with
   | nil=>simp at cu
   | cons y ys=>simp only[Ex.norm,Ex.dO,Ex.ov];rfl
 rw[sw] at fH
 rw[Ex.bN,rn] at dj bE fH ⊢
 have fS: ∀w,V.aj w=true→V.ae [.agg [vi 4,vi var,vi val.t,vi val.n,.bool val.b,.str val.s,.lit 7 (l.map Ex.v)],vi t,w]=true:=fun w h=>by simp only[V.ae,h,Bool.and_self,Bool.and_true];rfl
 have hR:ba none 4 var val [Bx,By] (l.map S)=Ex.mk 4 var val true (l.map S):=by simp[hl,ba,pick,q1,q2]
 rw[hR]
 subst xo
 refine xu ?_
 refine Ev.jC (R:=fun r=> ∃v,r=⟨v,[]⟩∧iq (Ex.mk 4 var val true (l.map S)) v) kE (kF _) rfl ?_
 (conv=>whnf);repeat' ((first| intro g| refine bD.mk _ (aA hx fD rfl) ?_| refine bD.mk _ (aA hy gi rfl) ?_| refine av.mk _ (dj) ?_| refine av.mk _ (fH) ?_| refine st ?_| (first| refine b1 ?_ ?_| refine b2 ?_ ?_| refine Br.mk ?_ ?_) <;>intro hc| exact rfl| ((refine av.mk _ bE ?_;simp only[cM,bC,hP,cond_true,List.append_nil])) | refine aq cm (aQ gX rfl) gL rfl ?_| refine aq cm (aQ kR rfl) km rfl ?_) <;>conv=>whnf)
 rename_i ed gj xy gA
 obtain⟨lI,gE⟩: ∃x,x=g:=⟨_,rfl⟩
 rw[←gE];clear gE
 refine bj.by (fun ((i,L):Nat×List Ex)=> ⟨[(1,.lit 4 ks),(2,.ptr 48 ed 0 0),(4,.ptr 80 gj 0 0),(9,.ptr 160 lI 0 0),(12,aO i)],
    [(80,⟨gj,7,false,false,some [.agg [vi 0,vi 0,vi 0,vi 0,.bool false,.str [],.lit 7 []]]⟩),(48,⟨ed,7,false,false,some [.agg [vi 4,vi var,vi val.t,vi val.n,.bool val.b,.str val.s,.lit 7 (l.map Ex.v)]]⟩),(160,⟨lI,7,false,false,some [.agg [vi 4,vi var,vi val.t,vi val.n,.bool val.b,.str val.s,.sl 534 gA 0 l.length]]⟩),(534,⟨gA,7,true,false,some (L.map Ex.v)⟩)]⟩)
   (fun (i,L)=>i≤l.length∧L=(l.take i).map S++(l.drop i).map Ex.norm) (fun (i,_)=>l.length - i) (0,l.map Ex.norm) (by(refine⟨?_,?_⟩ <;>repeat' (first| exact True.intro| refine ai ?_| refine And.intro ?_ ?_))) ⟨by simp,by simp⟩ ?_
 rintro⟨i,L⟩ ⟨hi,hL⟩
 try dsimp only at hi hL
 have Gd:L.length=l.length:=by rw[hL];simp;omega
 have sU: (L.map Ex.v).length=l.length:=by rw[List.length_map,Gd]
 by_cases bY:i<l.length
 · obtain⟨u,hu⟩: ∃u,l[i]? =some u:=⟨_,bp bY⟩
   obtain⟨ru,nX,yV⟩:=ih u (List.mem_of_getElem? hu)
   have ng:=fun r k=>yV.imp r k
   have re:L.set i (S u)=(l.take (i+1)).map S++(l.drop (i+1)).map Ex.norm:=by
    have h1: (l.drop i).map Ex.norm=u.norm:: (l.drop (i+1)).map Ex.norm:=by
     rw[List.drop_eq_getElem_cons bY,List.map_cons]
     congr 2
     exact(List.getElem?_eq_some_iff.1 hu).2
    rw[hL,h1,List.take_add_one,hu,List.set_append_right _ _ (by simp;omega)]
    simp
    rw[show i - min i l.length=0 by omega]
    rfl
   obtain⟨u0,A7⟩: ∃u0,L[i]? =some u0:=⟨_,bp (by omega)⟩
   obtain⟨a7,b7,c7,d7,e7,f7,M7,Ge,W2⟩:=u0.br
   obtain⟨a9,b9,c9,d9,e9,f9,M9,mS,vN⟩:=u.br
   rw[mS] at nX
   obtain⟨a8,b8,c8,d8,e8,f8,M8,gl,lH⟩:=(S u).form
   rw[gl] at ng
   have e1: ∀w,(S u).v=w→(⟨gA,7,true,false,some ((L.map Ex.v).set ((i:Nat):Int).toNat w)⟩:Obj)=⟨gA,7,true,false,some ((L.set i (S u)).map Ex.v)⟩:=fun w hw=>by rw[←hw];simp[List.map_set]
   rcases lH with rfl| ⟨us,rfl⟩
   all_goals
    (conv=>whnf);repeat' ((first| intro g| refine bD.mk _ (aA hu mS rfl) ?_| refine bD.mk _ (aA A7 Ge rfl) ?_| refine st ?_| (first| refine b1 ?_ ?_| refine b2 ?_ ?_| refine Br.mk ?_ ?_) <;>intro hc| exact rfl| refine bc lX (aQ vN rfl) nX ng ?_) <;>conv=>whnf)
    exact bk.mk (i+1,L.set i (S u)) (by first| omega| (dsimp only;omega)) ⟨(by first| omega| (dsimp only;omega)),re⟩ (by(refine⟨?_,?_⟩ <;>repeat' (first| exact True.intro| refine And.intro (e1 _ gl) ?_| refine ai ?_| refine And.intro ?_ ?_)))
 · have gP:i=l.length:=by omega
   subst gP
   rw[List.take_length,List.drop_length,List.map_nil,List.append_nil] at hL
   have lZ:0+l.length≤(L.map Ex.v).length:=by rw[sU];omega
   (conv=>whnf);repeat' ((first| intro g| refine bU.mk (⟨lZ,Ex.bq _⟩) ?_| refine st ?_| (first| refine b1 ?_ ?_| refine b2 ?_ ?_| refine Br.mk ?_ ?_) <;>intro hc| exact rfl) <;>conv=>whnf)
   exact⟨_,rfl,ir cu hL⟩
end Go.AM
