/-
  Texts of the proof: PSimC13, PSimC0.
-/
import Derived.Test.YtjmcpijpclfakaaGreatKa
set_option maxRecDepth 20000
set_option maxHeartbeats 4000000
set_option linter.unusedSimpArgs false
set_option linter.unusedVariables false
namespace Go.AM
theorem WY {x y z:Ex} {l:List Ex} (hl:l=[x,y,z]) {Bx By Bz:Bd} {es:List V} {S:Ex→Ex} {t er:Int} {val:Va} {var:Int} {nl:Bool} {vv:V} (eZ:V.aj (.mlit es)=true) (hlen:l.length< 1000000)
   (dj:Ev E 338 [(Ex.mk 13 var val nl l).v] ⟨.tuple [vi t,vi er],[]⟩) (bE:Ev E 387 [.mlit es,(Ex.mk 13 var val nl l).v,vi t] ⟨vv,[]⟩) (fR:jq none vv)
   (gL:Ev E 340 [.mlit es,x.v] ⟨Bx.v,[]⟩) (km:Ev E 340 [.mlit es,y.v] ⟨By.v,[]⟩) (iX:Ev E 340 [.mlit es,z.v] ⟨Bz.v,[]⟩)
   (ih: ∀x ∈ l,∃r,Ev E 344 [.mlit es,x.v] ⟨r,[]⟩∧iq (S x) r): ∃r,Ev E 344 [.mlit es,(Ex.mk 13 var val nl l).v] ⟨r,[]⟩∧iq (ba none 13 var val [Bx,By,Bz] (l.map S)) r:=by
 obtain⟨Xe,rfl,_⟩:=fR
 have DE:aD E 338=[]:=rfl
 have cm:aD E 340=[]:=rfl
 have gR:aD E 387=[]:=rfl
 have lX:aD E 344=[]:=rfl
 obtain⟨a0,b0,c0,d0,e0,f0,L0,fB,fY⟩:=Xe.br
 rw[fB] at bE
 have hP:V.aj (.tuple [.agg [vi a0,vi b0,vi c0,vi d0,.bool e0,.str f0,L0],.bool (none:Option Ex).isSome])=true:=by
   simp only[V.aj,V.ae,Bool.and_eq_true] at fY ⊢
   simp[fY]
 have cu:0 <l.length:=by rw[hl];simp
 have sr:l.length=3:=by rw[hl];rfl
 have lm: (l.map Ex.v).length=3:=by rw[List.length_map,sr]
 have hx:l[0]? =some x:=by rw[hl];rfl
 obtain⟨rx,hex,uk⟩:=ih x (by rw[hl];simp)
 have xx:=fun r k=>uk.imp r k
 obtain⟨Hx,Hy,Hz,HA,HB,HC,tW,fD,gX⟩:=x.br
 rw[fD] at gL hex
 have hy:l[1]? =some y:=by rw[hl];rfl
 obtain⟨ry,pO,um⟩:=ih y (by rw[hl];simp)
 have wK:=fun r k=>um.imp r k
 obtain⟨HD,HE,HF,HG,HH,HI,xL,gi,kR⟩:=y.br
 rw[gi] at km pO
 have hz:l[2]? =some z:=by rw[hl];rfl
 obtain⟨rz,Lr,Pn⟩:=ih z (by rw[hl];simp)
 have RF:=fun r k=>Pn.imp r k
 obtain⟨a1z,b1z,c1z,d1z,e1z,f1z,N4,Ab,KP⟩:=z.br
 rw[Ab] at iX Lr
 have rn:lv nl (l.map Ex.v)= .lit 7 (l.map Ex.v):=by
   cases l with
   | nil=>simp at cu
   | cons y ys=>rfl
 rw[Ex.bN,rn] at dj bE ⊢
 have fS:V.ae [.mlit es,.agg [vi 13,vi var,vi val.t,vi val.n,.bool val.b,.str val.s,.lit 7 (l.map Ex.v)],vi t]=true:=by simp only[V.ae,eZ,Bool.true_and];rfl
 by_cases q1:Bx.lo=1
 · have hR:ba none 13 var val [Bx,By,Bz] (l.map S)=S y:=by simp[hl,ba,pick,q1]
   rw[hR]
   obtain⟨a8,b8,c8,d8,e8,f8,M8,gl,lH⟩:=(S y).form
   rw[gl] at wK
   rcases lH with rfl| ⟨us,rfl⟩
   all_goals
     refine⟨_,?_,.inl rfl⟩
     rw[gl]
     refine Ev.aG wE (wF _) rfl ?_
     (conv=>whnf);repeat' ((first| refine aq gR fS bE hP ?_| refine aq cm (aQ eZ gX) gL (Bd.pure _) ?_| refine aq cm (aQ eZ kR) km (Bd.pure _) ?_| refine aq cm (aQ eZ KP) iX (Bd.pure _) ?_| refine bc lX (aQ eZ kR) pO wK ?_| intro g| refine bD.mk _ (aA hx fD rfl) ?_| refine bD.mk _ (aA hy gi rfl) ?_| refine bD.mk _ (aA hz Ab rfl) ?_| refine av.mk _ (dj) ?_| refine st ?_| (first| refine b1 ?_ ?_| refine b2 ?_ ?_| refine Br.mk ?_ ?_) <;>intro hc| exact rfl) <;>conv=>whnf)
 by_cases q2:Bx.hi=0
 · have hR:ba none 13 var val [Bx,By,Bz] (l.map S)=S z:=by simp[hl,ba,pick,q1,q2]
   rw[hR]
   obtain⟨a8,b8,c8,d8,e8,f8,M8,gl,lH⟩:=(S z).form
   rw[gl] at RF
   rcases lH with rfl| ⟨us,rfl⟩
   all_goals
     refine⟨_,?_,.inl rfl⟩
     rw[gl]
     refine Ev.aG wE (wF _) rfl ?_
     (conv=>whnf);repeat' ((first| refine aq gR fS bE hP ?_| refine aq cm (aQ eZ gX) gL (Bd.pure _) ?_| refine aq cm (aQ eZ kR) km (Bd.pure _) ?_| refine aq cm (aQ eZ KP) iX (Bd.pure _) ?_| refine bc lX (aQ eZ KP) Lr RF ?_| intro g| refine bD.mk _ (aA hx fD rfl) ?_| refine bD.mk _ (aA hy gi rfl) ?_| refine bD.mk _ (aA hz Ab rfl) ?_| refine av.mk _ (dj) ?_| refine st ?_| (first| refine b1 ?_ ?_| refine b2 ?_ ?_| refine Br.mk ?_ ?_) <;>intro hc| exact rfl) <;>conv=>whnf)
 have hR:ba none 13 var val [Bx,By,Bz] (l.map S)=Ex.mk 13 var val true (l.map S):=by simp[hl,ba,pick,q1,q2]
 rw[hR]
 refine xu ?_
 refine Ev.jC (R:=fun r=> ∃v,r=⟨v,[]⟩∧iq (Ex.mk 13 var val true (l.map S)) v) wE (wF _) rfl ?_
 (conv=>whnf);repeat' ((first| refine aq gR fS bE hP ?_| refine aq cm (aQ eZ gX) gL (Bd.pure _) ?_| refine aq cm (aQ eZ kR) km (Bd.pure _) ?_| refine aq cm (aQ eZ KP) iX (Bd.pure _) ?_| intro g| refine bD.mk _ (aA hx fD rfl) ?_| refine bD.mk _ (aA hy gi rfl) ?_| refine bD.mk _ (aA hz Ab rfl) ?_| refine av.mk _ (dj) ?_| refine st ?_| (first| refine b1 ?_ ?_| refine b2 ?_ ?_| refine Br.mk ?_ ?_) <;>intro hc| exact rfl) <;>conv=>whnf)
 rename_i G64 G80 xy
 obtain⟨fh,yb⟩: ∃x,x=G64:=⟨_,rfl⟩
 obtain⟨gj,Ls⟩: ∃x,x=G80:=⟨_,rfl⟩
 rw[←yb,←Ls];clear yb Ls
 refine bj.by (fun ((i,L,ce):Nat×List Ex×Option Nat)=> ⟨[(0,.mlit es),(3,.ptr 64 fh 0 0),(4,.ptr 80 gj 0 0),(108,.lit 7 (l.map Ex.v)),(109,aO (l.map Ex.v).length),(110,aO i)],
     match ce with
     | none=> [(80,⟨gj,7,false,false,some [.agg [vi 0,vi 0,vi 0,vi 0,.bool false,.str [],.lit 7 []]]⟩),(64,⟨fh,7,false,false,some [.agg [vi 13,vi var,vi val.t,vi val.n,.bool val.b,.str val.s,.nils]]⟩)]
     | some tf=> [(80,⟨gj,7,false,false,some [.agg [vi 0,vi 0,vi 0,vi 0,.bool false,.str [],.lit 7 []]]⟩),(64,⟨fh,7,false,false,some [.agg [vi 13,vi var,vi val.t,vi val.n,.bool val.b,.str val.s,.sl 69 tf 0 L.length]]⟩),(69,⟨tf,7,true,false,some (L.map Ex.v)⟩)]⟩)
   (fun (i,L,ce)=>i≤l.length∧L.length=i∧L=(l.take i).map S∧(ce=none→L=[])∧(0 <i→ce≠none)) (fun (i,_)=>l.length - i) (0,[],none) (by(refine⟨?_,?_⟩ <;>repeat' (first| exact True.intro| refine ai ?_| refine And.intro ?_ ?_))) ⟨by simp,by simp,by simp,by simp,by simp⟩ ?_
 rintro⟨i,L,ce⟩ ⟨hi,hL,lZ,Dl,BQ⟩
 try dsimp only at hi hL lZ Dl BQ
 by_cases bY:i<l.length
 · obtain⟨u,hu⟩: ∃u,l[i]? =some u:=⟨_,bp bY⟩
   obtain⟨ru,nX,yV⟩:=ih u (List.mem_of_getElem? hu)
   have ng:=fun r k=>yV.imp r k
   have re:L++[S u]=(l.take (i+1)).map S:=by rw[lZ,List.take_add_one,hu];simp
   obtain⟨a9,b9,c9,d9,e9,f9,M9,mS,vN⟩:=u.br
   rw[mS] at nX
   obtain⟨a8,b8,c8,d8,e8,f8,M8,gl,lH⟩:=(S u).form
   rw[gl] at ng
   rcases lH with rfl| ⟨us,rfl⟩
   all_goals
     cases ce with
     | none=>
       obtain rfl:=Dl rfl
       (conv=>whnf);repeat' ((first| refine bc lX (aQ eZ vN) nX ng ?_| intro g| refine bD.mk _ (aA hu mS rfl) ?_| refine st ?_| (first| refine b1 ?_ ?_| refine b2 ?_ ?_| refine Br.mk ?_ ?_) <;>intro hc| exact rfl) <;>conv=>whnf)
       exact bk.mk (i+1,[S u],some g) (by first| omega| (dsimp only;omega)) ⟨(by first| omega| (dsimp only;omega)),by simp at hL ⊢;omega,re,by simp,by simp⟩ (by simp only[List.map_cons,List.map_nil,gl]; (refine⟨?_,?_⟩ <;>repeat' (first| exact True.intro| refine ai ?_| refine And.intro ?_ ?_)))
     | some tf=>
       (conv=>whnf);repeat' ((first| refine bc lX (aQ eZ vN) nX ng ?_| intro g| refine bD.mk _ (aA hu mS rfl) ?_| refine st ?_| (first| refine b1 ?_ ?_| refine b2 ?_ ?_| refine Br.mk ?_ ?_) <;>intro hc| exact rfl) <;>conv=>whnf)
       exact bk.mk (i+1,L++[S u],some g) (by first| omega| (dsimp only;omega)) ⟨(by first| omega| (dsimp only;omega)),by simp;omega,re,by simp,by simp⟩ (by simp only[List.map_append,List.map_cons,List.map_nil,gl]; (refine⟨?_,?_⟩ <;>repeat' (first| exact True.intro| refine ai ?_| refine And.intro ?_ ?_)))
 · have gP:i=l.length:=by omega
   subst gP
   rw[List.take_length] at lZ
   cases ce with
   | none=>exact absurd rfl (BQ cu)
   | some tf=>
     (conv=>whnf);repeat' ((first| intro g| refine bU.mk (⟨by simp,Ex.bq _⟩) ?_| refine st ?_| (first| refine b1 ?_ ?_| refine b2 ?_ ?_| refine Br.mk ?_ ?_) <;>intro hc| exact rfl) <;>conv=>whnf)
     exact⟨_,rfl,ir cu lZ⟩
end Go.AM
namespace Go.AM
theorem RG {op:Int} (dN:op≠13∧op≠4∧op≠5) {l:List Ex} (WZ:l≠[]) {es:List V} {S:Ex→Ex} {t er:Int} {val:Va} {var:Int} {nl:Bool} {vv:V} (eZ:V.aj (.mlit es)=true) (hlen:l.length< 1000000)
   (dj:Ev E 338 [(Ex.mk op var val nl l).v] ⟨.tuple [vi t,vi er],[]⟩) (bE:Ev E 387 [.mlit es,(Ex.mk op var val nl l).v,vi t] ⟨vv,[]⟩) (fR:jq none vv)
   (ih: ∀x ∈ l,∃r,Ev E 344 [.mlit es,x.v] ⟨r,[]⟩∧iq (S x) r): ∃r,Ev E 344 [.mlit es,(Ex.mk op var val nl l).v] ⟨r,[]⟩∧iq (Ex.mk op var val true (l.map S)) r:=by
 obtain⟨Xe,rfl,_⟩:=fR
 have DE:aD E 338=[]:=rfl
 have cm:aD E 340=[]:=rfl
 have gR:aD E 387=[]:=rfl
 have lX:aD E 344=[]:=rfl
 obtain⟨a0,b0,c0,d0,e0,f0,L0,fB,fY⟩:=Xe.br
 rw[fB] at bE
 have hP:V.aj (.tuple [.agg [vi a0,vi b0,vi c0,vi d0,.bool e0,.str f0,L0],.bool (none:Option Ex).isSome])=true:=by
   simp only[V.aj,V.ae,Bool.and_eq_true] at fY ⊢
   simp[fY]
 have cu:0 <l.length:=by cases l with| nil=>exact absurd rfl WZ| cons=>simp
 have lm: (l.map Ex.v).length=l.length:=List.length_map ..
 have n13: ¬op=13:=by omega
 have n4: ¬op=4:=by omega
 have n5: ¬op=5:=by omega
 have rn:lv nl (l.map Ex.v)= .lit 7 (l.map Ex.v):=by
   cases l with
   | nil=>simp at cu
   | cons y ys=>rfl
 rw[Ex.bN,rn] at dj bE ⊢
 have fS:V.ae [.mlit es,.agg [vi op,vi var,vi val.t,vi val.n,.bool val.b,.str val.s,.lit 7 (l.map Ex.v)],vi t]=true:=by simp only[V.ae,eZ,Bool.true_and];rfl
 refine xu ?_
 refine Ev.jC (R:=fun r=> ∃v,r=⟨v,[]⟩∧iq (Ex.mk op var val true (l.map S)) v) wE (wF _) rfl ?_
 (conv=>whnf);repeat' ((first| refine aq gR fS bE hP ?_| intro g| refine av.mk _ (dj) ?_| refine st ?_| (first| refine b1 ?_ ?_| refine b2 ?_ ?_| refine Br.mk ?_ ?_) <;>intro hc| exact rfl) <;>conv=>whnf)
 rename_i G64 G80
 obtain⟨fh,yb⟩: ∃x,x=G64:=⟨_,rfl⟩
 obtain⟨gj,Ls⟩: ∃x,x=G80:=⟨_,rfl⟩
 rw[←yb,←Ls];clear yb Ls
 refine bj.by (fun ((i,L,ce):Nat×List Ex×Option Nat)=> ⟨[(0,.mlit es),(3,.ptr 64 fh 0 0),(4,.ptr 80 gj 0 0),(108,.lit 7 (l.map Ex.v)),(109,aO (l.map Ex.v).length),(110,aO i)],
     match ce with
     | none=> [(80,⟨gj,7,false,false,some [.agg [vi 0,vi 0,vi 0,vi 0,.bool false,.str [],.lit 7 []]]⟩),(64,⟨fh,7,false,false,some [.agg [vi op,vi var,vi val.t,vi val.n,.bool val.b,.str val.s,.nils]]⟩)]
     | some tf=> [(80,⟨gj,7,false,false,some [.agg [vi 0,vi 0,vi 0,vi 0,.bool false,.str [],.lit 7 []]]⟩),(64,⟨fh,7,false,false,some [.agg [vi op,vi var,vi val.t,vi val.n,.bool val.b,.str val.s,.sl 69 tf 0 L.length]]⟩),(69,⟨tf,7,true,false,some (L.map Ex.v)⟩)]⟩)
   (fun (i,L,ce)=>i≤l.length∧L.length=i∧L=(l.take i).map S∧(ce=none→L=[])∧(0 <i→ce≠none)) (fun (i,_)=>l.length - i) (0,[],none) (by(refine⟨?_,?_⟩ <;>repeat' (first| exact True.intro| refine ai ?_| refine And.intro ?_ ?_))) ⟨by simp,by simp,by simp,by simp,by simp⟩ ?_
 rintro⟨i,L,ce⟩ ⟨hi,hL,lZ,Dl,BQ⟩
 try dsimp only at hi hL lZ Dl BQ
 by_cases bY:i<l.length
 · obtain⟨u,hu⟩: ∃u,l[i]? =some u:=⟨_,bp bY⟩
   obtain⟨ru,nX,yV⟩:=ih u (List.mem_of_getElem? hu)
   have ng:=fun r k=>yV.imp r k
   have re:L++[S u]=(l.take (i+1)).map S:=by rw[lZ,List.take_add_one,hu];simp
   obtain⟨a9,b9,c9,d9,e9,f9,M9,mS,vN⟩:=u.br
   rw[mS] at nX
   obtain⟨a8,b8,c8,d8,e8,f8,M8,gl,lH⟩:=(S u).form
   rw[gl] at ng
   rcases lH with rfl| ⟨us,rfl⟩
   all_goals
     cases ce with
     | none=>
       obtain rfl:=Dl rfl
       (conv=>whnf);repeat' ((first| refine bc lX (aQ eZ vN) nX ng ?_| intro g| refine bD.mk _ (aA hu mS rfl) ?_| refine st ?_| (first| refine b1 ?_ ?_| refine b2 ?_ ?_| refine Br.mk ?_ ?_) <;>intro hc| exact rfl) <;>conv=>whnf)
       exact bk.mk (i+1,[S u],some g) (by first| omega| (dsimp only;omega)) ⟨(by first| omega| (dsimp only;omega)),by simp at hL ⊢;omega,re,by simp,by simp⟩ (by simp only[List.map_cons,List.map_nil,gl]; (refine⟨?_,?_⟩ <;>repeat' (first| exact True.intro| refine ai ?_| refine And.intro ?_ ?_)))
     | some tf=>
       (conv=>whnf);repeat' ((first| refine bc lX (aQ eZ vN) nX ng ?_| intro g| refine bD.mk _ (aA hu mS rfl) ?_| refine st ?_| (first| refine b1 ?_ ?_| refine b2 ?_ ?_| refine Br.mk ?_ ?_) <;>intro hc| exact rfl) <;>conv=>whnf)
       exact bk.mk (i+1,L++[S u],some g) (by first| omega| (dsimp only;omega)) ⟨(by first| omega| (dsimp only;omega)),by simp;omega,re,by simp,by simp⟩ (by simp only[List.map_append,List.map_cons,List.map_nil,gl]; (refine⟨?_,?_⟩ <;>repeat' (first| exact True.intro| refine ai ?_| refine And.intro ?_ ?_)))
 · have gP:i=l.length:=by omega
   subst gP
   rw[List.take_length] at lZ
   cases ce with
   | none=>exact absurd rfl (BQ cu)
   | some tf=>
     (conv=>whnf);repeat' ((first| intro g| refine bU.mk (⟨by simp,Ex.bq _⟩) ?_| refine st ?_| (first| refine b1 ?_ ?_| refine b2 ?_ ?_| refine Br.mk ?_ ?_) <;>intro hc| exact rfl) <;>conv=>whnf)
     exact⟨_,rfl,ir cu lZ⟩
end Go.AM
