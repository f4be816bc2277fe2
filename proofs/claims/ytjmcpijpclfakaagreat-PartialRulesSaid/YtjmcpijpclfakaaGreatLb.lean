/-
  Texts of the proof: PSimC4, PSimC5, PSimD.
-/
import Derived.Test.YtjmcpijpclfakaaGreatKa
import Derived.Test.YtjmcpijpclfakaaGreatLa
set_option maxRecDepth 20000
set_option maxHeartbeats 4000000
set_option linter.unusedSimpArgs false
set_option linter.unusedVariables false
namespace Go.AM
theorem ab0 {x y:Ex} {l:List Ex} (hl:l=[x,y]) {Bx By:Bd} {es:List V} {S:Ex→Ex} {t er:Int} {val:Va} {var:Int} {nl:Bool} {vv:V} (eZ:V.aj (.mlit es)=true) (hlen:l.length< 1000000)
   (dj:Ev E 338 [(Ex.mk 4 var val nl l).v] ⟨.tuple [vi t,vi er],[]⟩) (bE:Ev E 387 [.mlit es,(Ex.mk 4 var val nl l).v,vi t] ⟨vv,[]⟩) (fR:jq none vv)
   (gL:Ev E 340 [.mlit es,x.v] ⟨Bx.v,[]⟩) (km:Ev E 340 [.mlit es,y.v] ⟨By.v,[]⟩)
   (ih: ∀x ∈ l,∃r,Ev E 344 [.mlit es,x.v] ⟨r,[]⟩∧iq (S x) r): ∃r,Ev E 344 [.mlit es,(Ex.mk 4 var val nl l).v] ⟨r,[]⟩∧iq (ba none 4 var val [Bx,By] (l.map S)) r:=by
 obtain⟨Xe,rfl,_⟩:=fR
 have DE:aD E 338=[]:=rfl
 have cm:aD E 340=[]:=rfl
 have gR:aD E 387=[]:=rfl
 have lX:aD E 344=[]:=rfl
 obtain⟨a0,b0,c0,d0,e0,f0,L0,fB,fY⟩:=Xe.br
 rw[fB] at bE
 have hP:V.aj (.tuple [.agg [vi a0,vi b0,vi c0,vi d0,.bool e0,.str f0,L0],.bool (none:Option Ex).isSome])=true:=by
   simp only[V.aj,V.ae,Bool.and_eq_true] at fY ⊢
   simp[fY]
 have cu:0 <l.length:=by rw[hl];simp
 have sr:l.length=2:=by rw[hl];rfl
 have lm: (l.map Ex.v).length=2:=by rw[List.length_map,sr]
 have hx:l[0]? =some x:=by rw[hl];rfl
 obtain⟨rx,hex,uk⟩:=ih x (by rw[hl];simp)
 have xx:=fun r k=>uk.imp r k
 obtain⟨Hx,Hy,Hz,HA,HB,HC,tW,fD,gX⟩:=x.br
 rw[fD] at gL hex
 have hy:l[1]? =some y:=by rw[hl];rfl
 obtain⟨ry,pO,um⟩:=ih y (by rw[hl];simp)
 have wK:=fun r k=>um.imp r k
 obtain⟨HD,HE,HF,HG,HH,HI,xL,gi,kR⟩:=y.br
 rw[gi] at km pO
 have rn:lv nl (l.map Ex.v)= .lit 7 (l.map Ex.v):=by
   cases l with
   | nil=>simp at cu
   | cons y ys=>rfl
 rw[Ex.bN,rn] at dj bE ⊢
 have fS:V.ae [.mlit es,.agg [vi 4,vi var,vi val.t,vi val.n,.bool val.b,.str val.s,.lit 7 (l.map Ex.v)],vi t]=true:=by simp only[V.ae,eZ,Bool.true_and];rfl
 have hR1:Bx.lo=1→ba none 4 var val [Bx,By] (l.map S)=S y:=fun q=>by simp[hl,ba,pick,q]
 have hR2: ¬Bx.lo=1→By.lo=1→ba none 4 var val [Bx,By] (l.map S)=S x:=fun q q2=>by simp[hl,ba,pick,q,q2]
 have hR3: ¬Bx.lo=1→ ¬By.lo=1→ba none 4 var val [Bx,By] (l.map S)=Ex.mk 4 var val true (l.map S):=fun q q2=>by simp[hl,ba,pick,q,q2]
 generalize ba none 4 var val [Bx,By] (l.map S)=R at*
 refine xu ?_
 refine Ev.jC (R:=fun r=> ∃v,r=⟨v,[]⟩∧iq (R) v) wE (wF _) rfl ?_
 (conv=>whnf);repeat' ((first| refine aq gR fS bE hP ?_| refine aq cm (aQ eZ gX) gL (Bd.pure _) ?_| refine aq cm (aQ eZ kR) km (Bd.pure _) ?_| intro g| refine bD.mk _ (aA hx fD rfl) ?_| refine bD.mk _ (aA hy gi rfl) ?_| refine av.mk _ (dj) ?_| refine st ?_| (first| refine b1 ?_ ?_| refine b2 ?_ ?_| refine Br.mk ?_ ?_) <;>intro hc| exact rfl) <;>conv=>whnf)
 rename_i fh gj
 refine bj.by (fun (i:Nat)=> ⟨[(0,.mlit es),(3,.ptr 64 fh 0 0),(4,.ptr 80 gj 0 0),(61,aO i)],[(64,⟨fh,7,false,false,some [.agg [vi 4,vi var,vi val.t,vi val.n,.bool val.b,.str val.s,.lit 7 (l.map Ex.v)]]⟩),(80,⟨gj,7,false,false,some [.agg [vi 0,vi 0,vi 0,vi 0,.bool false,.str [],.lit 7 []]]⟩)]⟩) (fun i=>i≤2∧(0 <i→ ¬Bx.lo=1)∧(1 <i→ ¬By.lo=1)) (fun i=>2 - i) 0 (by(refine⟨?_,?_⟩ <;>repeat' (first| exact True.intro| refine ai ?_| refine And.intro ?_ ?_))) (by simp) ?_
 rintro i ⟨hi,q1,q2⟩
 have gv:i=0∨i=1∨i=2:=by omega
 have w0:IntKind.i64.wrap (1 - ((0:Nat):Int))=((1:Nat):Int):=by decide
 have w1:IntKind.i64.wrap (1 - ((1:Nat):Int))=((0:Nat):Int):=by decide
 rcases gv with rfl| rfl| rfl
 · by_cases c1:Bx.lo=1
   · rw[hR1 c1]
     obtain⟨a8,b8,c8,d8,e8,f8,M8,gl,lH⟩:=(S y).form
     rw[gl] at wK
     rcases lH with rfl| ⟨us,rfl⟩
     all_goals
       (conv=>whnf);repeat' ((first| refine aq gR fS bE hP ?_| refine aq cm (aQ eZ gX) gL (Bd.pure _) ?_| refine aq cm (aQ eZ kR) km (Bd.pure _) ?_| refine bc lX (aQ eZ kR) pO wK ?_| intro g| refine bD.mk _ (aA hx fD rfl) ?_| refine bD.mk _ (aA hy gi rfl) ?_| refine bD.mk _ (aA hy gi w0) ?_| refine bD.mk _ (aA hx fD w1) ?_| refine st ?_| (first| refine b1 ?_ ?_| refine b2 ?_ ?_| refine Br.mk ?_ ?_) <;>intro hc| exact rfl) <;>conv=>whnf)
       exact⟨_,rfl,.inl gl.symm⟩
   · (conv=>whnf);repeat' ((first| refine aq gR fS bE hP ?_| refine aq cm (aQ eZ gX) gL (Bd.pure _) ?_| refine aq cm (aQ eZ kR) km (Bd.pure _) ?_| intro g| refine bD.mk _ (aA hx fD rfl) ?_| refine bD.mk _ (aA hy gi rfl) ?_| refine bD.mk _ (aA hy gi w0) ?_| refine bD.mk _ (aA hx fD w1) ?_| refine st ?_| (first| refine b1 ?_ ?_| refine b2 ?_ ?_| refine Br.mk ?_ ?_) <;>intro hc| exact rfl) <;>conv=>whnf)
     exact bk.mk 1 (by first| omega| (dsimp only;omega)) ⟨by omega,by intro _;first| exact c1| exact q1 (by omega),by intro _;first| exact c1| omega⟩ (by(refine⟨?_,?_⟩ <;>repeat' (first| exact True.intro| refine ai ?_| refine And.intro ?_ ?_)))
 · by_cases c1:By.lo=1
   · rw[hR2 (q1 (by omega)) c1]
     obtain⟨a8,b8,c8,d8,e8,f8,M8,gl,lH⟩:=(S x).form
     rw[gl] at xx
     rcases lH with rfl| ⟨us,rfl⟩
     all_goals
       (conv=>whnf);repeat' ((first| refine aq gR fS bE hP ?_| refine aq cm (aQ eZ gX) gL (Bd.pure _) ?_| refine aq cm (aQ eZ kR) km (Bd.pure _) ?_| refine bc lX (aQ eZ gX) hex xx ?_| intro g| refine bD.mk _ (aA hx fD rfl) ?_| refine bD.mk _ (aA hy gi rfl) ?_| refine bD.mk _ (aA hy gi w0) ?_| refine bD.mk _ (aA hx fD w1) ?_| refine st ?_| (first| refine b1 ?_ ?_| refine b2 ?_ ?_| refine Br.mk ?_ ?_) <;>intro hc| exact rfl) <;>conv=>whnf)
       exact⟨_,rfl,.inl gl.symm⟩
   · (conv=>whnf);repeat' ((first| refine aq gR fS bE hP ?_| refine aq cm (aQ eZ gX) gL (Bd.pure _) ?_| refine aq cm (aQ eZ kR) km (Bd.pure _) ?_| intro g| refine bD.mk _ (aA hx fD rfl) ?_| refine bD.mk _ (aA hy gi rfl) ?_| refine bD.mk _ (aA hy gi w0) ?_| refine bD.mk _ (aA hx fD w1) ?_| refine st ?_| (first| refine b1 ?_ ?_| refine b2 ?_ ?_| refine Br.mk ?_ ?_) <;>intro hc| exact rfl) <;>conv=>whnf)
     exact bk.mk 2 (by first| omega| (dsimp only;omega)) ⟨by omega,by intro _;first| exact c1| exact q1 (by omega),by intro _;first| exact c1| omega⟩ (by(refine⟨?_,?_⟩ <;>repeat' (first| exact True.intro| refine ai ?_| refine And.intro ?_ ?_)))
 · have q1:=q1 (by omega)
   have q2:=q2 (by omega)
   rw[hR3 q1 q2]
   (conv=>whnf);repeat' ((first| intro g| refine st ?_| (first| refine b1 ?_ ?_| refine b2 ?_ ?_| refine Br.mk ?_ ?_) <;>intro hc| exact rfl) <;>conv=>whnf)
   skip
   refine bj.by (fun ((i,L,ce):Nat×List Ex×Option Nat)=> ⟨[(0,.mlit es),(3,.ptr 64 fh 0 0),(4,.ptr 80 gj 0 0),(108,.lit 7 (l.map Ex.v)),(109,aO (l.map Ex.v).length),(110,aO i)],
       match ce with
       | none=> [(80,⟨gj,7,false,false,some [.agg [vi 0,vi 0,vi 0,vi 0,.bool false,.str [],.lit 7 []]]⟩),(64,⟨fh,7,false,false,some [.agg [vi 4,vi var,vi val.t,vi val.n,.bool val.b,.str val.s,.nils]]⟩)]
       | some tf=> [(80,⟨gj,7,false,false,some [.agg [vi 0,vi 0,vi 0,vi 0,.bool false,.str [],.lit 7 []]]⟩),(64,⟨fh,7,false,false,some [.agg [vi 4,vi var,vi val.t,vi val.n,.bool val.b,.str val.s,.sl 69 tf 0 L.length]]⟩),(69,⟨tf,7,true,false,some (L.map Ex.v)⟩)]⟩)
     (fun (i,L,ce)=>i≤l.length∧L.length=i∧L=(l.take i).map S∧(ce=none→L=[])∧(0 <i→ce≠none)) (fun (i,_)=>l.length - i) (0,[],none) (by(refine⟨?_,?_⟩ <;>repeat' (first| exact True.intro| refine ai ?_| refine And.intro ?_ ?_))) ⟨by simp,by simp,by simp,by simp,by simp⟩ ?_
   rintro⟨i,L,ce⟩ ⟨hi,hL,lZ,Dl,BQ⟩
   try dsimp only at hi hL lZ Dl BQ
   by_cases bY:i<l.length
   · obtain⟨u,hu⟩: ∃u,l[i]? =some u:=⟨_,bp bY⟩
     obtain⟨ru,nX,yV⟩:=ih u (List.mem_of_getElem? hu)
     have ng:=fun r k=>yV.imp r k
     have re:L++[S u]=(l.take (i+1)).map S:=by rw[lZ,List.take_add_one,hu];simp
     obtain⟨a9,b9,c9,d9,e9,f9,M9,mS,vN⟩:=u.br
     rw[mS] at nX
     obtain⟨a8,b8,c8,d8,e8,f8,M8,gl,lH⟩:=(S u).form
     rw[gl] at ng
     rcases lH with rfl| ⟨us,rfl⟩
     all_goals
       cases ce with
       | none=>
         obtain rfl:=Dl rfl
         (conv=>whnf);repeat' ((first| refine bc lX (aQ eZ vN) nX ng ?_| intro g| refine bD.mk _ (aA hu mS rfl) ?_| refine st ?_| (first| refine b1 ?_ ?_| refine b2 ?_ ?_| refine Br.mk ?_ ?_) <;>intro hc| exact rfl) <;>conv=>whnf)
         exact bk.mk (i+1,[S u],some g) (by first| omega| (dsimp only;omega)) ⟨(by first| omega| (dsimp only;omega)),by simp at hL ⊢;omega,re,by simp,by simp⟩ (by simp only[List.map_cons,List.map_nil,gl]; (refine⟨?_,?_⟩ <;>repeat' (first| exact True.intro| refine ai ?_| refine And.intro ?_ ?_)))
       | some tf=>
         (conv=>whnf);repeat' ((first| refine bc lX (aQ eZ vN) nX ng ?_| intro g| refine bD.mk _ (aA hu mS rfl) ?_| refine st ?_| (first| refine b1 ?_ ?_| refine b2 ?_ ?_| refine Br.mk ?_ ?_) <;>intro hc| exact rfl) <;>conv=>whnf)
         exact bk.mk (i+1,L++[S u],some g) (by first| omega| (dsimp only;omega)) ⟨(by first| omega| (dsimp only;omega)),by simp;omega,re,by simp,by simp⟩ (by simp only[List.map_append,List.map_cons,List.map_nil,gl]; (refine⟨?_,?_⟩ <;>repeat' (first| exact True.intro| refine ai ?_| refine And.intro ?_ ?_)))
   · have gP:i=l.length:=by omega
     subst gP
     rw[List.take_length] at lZ
     cases ce with
     | none=>exact absurd rfl (BQ cu)
     | some tf=>
       (conv=>whnf);repeat' ((first| intro g| refine bU.mk (⟨by simp,Ex.bq _⟩) ?_| refine st ?_| (first| refine b1 ?_ ?_| refine b2 ?_ ?_| refine Br.mk ?_ ?_) <;>intro hc| exact rfl) <;>conv=>whnf)
       exact⟨_,rfl,ir cu lZ⟩
end Go.AM
namespace Go.AM
theorem ab1 {x y:Ex} {l:List Ex} (hl:l=[x,y]) {Bx By:Bd} {es:List V} {S:Ex→Ex} {t er:Int} {val:Va} {var:Int} {nl:Bool} {vv:V} (eZ:V.aj (.mlit es)=true) (hlen:l.length< 1000000)
   (dj:Ev E 338 [(Ex.mk 5 var val nl l).v] ⟨.tuple [vi t,vi er],[]⟩) (bE:Ev E 387 [.mlit es,(Ex.mk 5 var val nl l).v,vi t] ⟨vv,[]⟩) (fR:jq none vv)
   (gL:Ev E 340 [.mlit es,x.v] ⟨Bx.v,[]⟩) (km:Ev E 340 [.mlit es,y.v] ⟨By.v,[]⟩)
   (ih: ∀x ∈ l,∃r,Ev E 344 [.mlit es,x.v] ⟨r,[]⟩∧iq (S x) r): ∃r,Ev E 344 [.mlit es,(Ex.mk 5 var val nl l).v] ⟨r,[]⟩∧iq (ba none 5 var val [Bx,By] (l.map S)) r:=by
 obtain⟨Xe,rfl,_⟩:=fR
 have DE:aD E 338=[]:=rfl
 have cm:aD E 340=[]:=rfl
 have gR:aD E 387=[]:=rfl
 have lX:aD E 344=[]:=rfl
 obtain⟨a0,b0,c0,d0,e0,f0,L0,fB,fY⟩:=Xe.br
 rw[fB] at bE
 have hP:V.aj (.tuple [.agg [vi a0,vi b0,vi c0,vi d0,.bool e0,.str f0,L0],.bool (none:Option Ex).isSome])=true:=by
   simp only[V.aj,V.ae,Bool.and_eq_true] at fY ⊢
   simp[fY]
 have cu:0 <l.length:=by rw[hl];simp
 have sr:l.length=2:=by rw[hl];rfl
 have lm: (l.map Ex.v).length=2:=by rw[List.length_map,sr]
 have hx:l[0]? =some x:=by rw[hl];rfl
 obtain⟨rx,hex,uk⟩:=ih x (by rw[hl];simp)
 have xx:=fun r k=>uk.imp r k
 obtain⟨Hx,Hy,Hz,HA,HB,HC,tW,fD,gX⟩:=x.br
 rw[fD] at gL hex
 have hy:l[1]? =some y:=by rw[hl];rfl
 obtain⟨ry,pO,um⟩:=ih y (by rw[hl];simp)
 have wK:=fun r k=>um.imp r k
 obtain⟨HD,HE,HF,HG,HH,HI,xL,gi,kR⟩:=y.br
 rw[gi] at km pO
 have rn:lv nl (l.map Ex.v)= .lit 7 (l.map Ex.v):=by
   cases l with
   | nil=>simp at cu
   | cons y ys=>rfl
 rw[Ex.bN,rn] at dj bE ⊢
 have fS:V.ae [.mlit es,.agg [vi 5,vi var,vi val.t,vi val.n,.bool val.b,.str val.s,.lit 7 (l.map Ex.v)],vi t]=true:=by simp only[V.ae,eZ,Bool.true_and];rfl
 have hR1:Bx.hi=0→ba none 5 var val [Bx,By] (l.map S)=S y:=fun q=>by simp[hl,ba,pick,q]
 have hR2: ¬Bx.hi=0→By.hi=0→ba none 5 var val [Bx,By] (l.map S)=S x:=fun q q2=>by simp[hl,ba,pick,q,q2]
 have hR3: ¬Bx.hi=0→ ¬By.hi=0→ba none 5 var val [Bx,By] (l.map S)=Ex.mk 5 var val true (l.map S):=fun q q2=>by simp[hl,ba,pick,q,q2]
 generalize ba none 5 var val [Bx,By] (l.map S)=R at*
 refine xu ?_
 refine Ev.jC (R:=fun r=> ∃v,r=⟨v,[]⟩∧iq (R) v) wE (wF _) rfl ?_
 (conv=>whnf);repeat' ((first| refine aq gR fS bE hP ?_| refine aq cm (aQ eZ gX) gL (Bd.pure _) ?_| refine aq cm (aQ eZ kR) km (Bd.pure _) ?_| intro g| refine bD.mk _ (aA hx fD rfl) ?_| refine bD.mk _ (aA hy gi rfl) ?_| refine av.mk _ (dj) ?_| refine st ?_| (first| refine b1 ?_ ?_| refine b2 ?_ ?_| refine Br.mk ?_ ?_) <;>intro hc| exact rfl) <;>conv=>whnf)
 rename_i fh gj
 refine bj.by (fun (i:Nat)=> ⟨[(0,.mlit es),(3,.ptr 64 fh 0 0),(4,.ptr 80 gj 0 0),(84,aO i)],[(64,⟨fh,7,false,false,some [.agg [vi 5,vi var,vi val.t,vi val.n,.bool val.b,.str val.s,.lit 7 (l.map Ex.v)]]⟩),(80,⟨gj,7,false,false,some [.agg [vi 0,vi 0,vi 0,vi 0,.bool false,.str [],.lit 7 []]]⟩)]⟩) (fun i=>i≤2∧(0 <i→ ¬Bx.hi=0)∧(1 <i→ ¬By.hi=0)) (fun i=>2 - i) 0 (by(refine⟨?_,?_⟩ <;>repeat' (first| exact True.intro| refine ai ?_| refine And.intro ?_ ?_))) (by simp) ?_
 rintro i ⟨hi,q1,q2⟩
 have gv:i=0∨i=1∨i=2:=by omega
 have w0:IntKind.i64.wrap (1 - ((0:Nat):Int))=((1:Nat):Int):=by decide
 have w1:IntKind.i64.wrap (1 - ((1:Nat):Int))=((0:Nat):Int):=by decide
 rcases gv with rfl| rfl| rfl
 · by_cases c1:Bx.hi=0
   · rw[hR1 c1]
     obtain⟨a8,b8,c8,d8,e8,f8,M8,gl,lH⟩:=(S y).form
     rw[gl] at wK
     rcases lH with rfl| ⟨us,rfl⟩
     all_goals
       (conv=>whnf);repeat' ((first| refine aq gR fS bE hP ?_| refine aq cm (aQ eZ gX) gL (Bd.pure _) ?_| refine aq cm (aQ eZ kR) km (Bd.pure _) ?_| refine bc lX (aQ eZ kR) pO wK ?_| intro g| refine bD.mk _ (aA hx fD rfl) ?_| refine bD.mk _ (aA hy gi rfl) ?_| refine bD.mk _ (aA hy gi w0) ?_| refine bD.mk _ (aA hx fD w1) ?_| refine st ?_| (first| refine b1 ?_ ?_| refine b2 ?_ ?_| refine Br.mk ?_ ?_) <;>intro hc| exact rfl) <;>conv=>whnf)
       exact⟨_,rfl,.inl gl.symm⟩
   · (conv=>whnf);repeat' ((first| refine aq gR fS bE hP ?_| refine aq cm (aQ eZ gX) gL (Bd.pure _) ?_| refine aq cm (aQ eZ kR) km (Bd.pure _) ?_| intro g| refine bD.mk _ (aA hx fD rfl) ?_| refine bD.mk _ (aA hy gi rfl) ?_| refine bD.mk _ (aA hy gi w0) ?_| refine bD.mk _ (aA hx fD w1) ?_| refine st ?_| (first| refine b1 ?_ ?_| refine b2 ?_ ?_| refine Br.mk ?_ ?_) <;>intro hc| exact rfl) <;>conv=>whnf)
     exact bk.mk 1 (by first| omega| (dsimp only;omega)) ⟨by omega,by intro _;first| exact c1| exact q1 (by omega),by intro _;first| exact c1| omega⟩ (by(refine⟨?_,?_⟩ <;>repeat' (first| exact True.intro| refine ai ?_| refine And.intro ?_ ?_)))
 · by_cases c1:By.hi=0
   · rw[hR2 (q1 (by omega)) c1]
     obtain⟨a8,b8,c8,d8,e8,f8,M8,gl,lH⟩:=(S x).form
     rw[gl] at xx
     rcases lH with rfl| ⟨us,rfl⟩
     all_goals
       (conv=>whnf);repeat' ((first| refine aq gR fS bE hP ?_| refine aq cm (aQ eZ gX) gL (Bd.pure _) ?_| refine aq cm (aQ eZ kR) km (Bd.pure _) ?_| refine bc lX (aQ eZ gX) hex xx ?_| intro g| refine bD.mk _ (aA hx fD rfl) ?_| refine bD.mk _ (aA hy gi rfl) ?_| refine bD.mk _ (aA hy gi w0) ?_| refine bD.mk _ (aA hx fD w1) ?_| refine st ?_| (first| refine b1 ?_ ?_| refine b2 ?_ ?_| refine Br.mk ?_ ?_) <;>intro hc| exact rfl) <;>conv=>whnf)
       exact⟨_,rfl,.inl gl.symm⟩
   · (conv=>whnf);repeat' ((first| refine aq gR fS bE hP ?_| refine aq cm (aQ eZ gX) gL (Bd.pure _) ?_| refine aq cm (aQ eZ kR) km (Bd.pure _) ?_| intro g| refine bD.mk _ (aA hx fD rfl) ?_| refine bD.mk _ (aA hy gi rfl) ?_| refine bD.mk _ (aA hy gi w0) ?_| refine bD.mk _ (aA hx fD w1) ?_| refine st ?_| (first| refine b1 ?_ ?_| refine b2 ?_ ?_| refine Br.mk ?_ ?_) <;>intro hc| exact rfl) <;>conv=>whnf)
     exact bk.mk 2 (by first| omega| (dsimp only;omega)) ⟨by omega,by intro _;first| exact c1| exact q1 (by omega),by intro _;first| exact c1| omega⟩ (by(refine⟨?_,?_⟩ <;>repeat' (first| exact True.intro| refine ai ?_| refine And.intro ?_ ?_)))
 · have q1:=q1 (by omega)
   have q2:=q2 (by omega)
   rw[hR3 q1 q2]
   (conv=>whnf);repeat' ((first| intro g| refine st ?_| (first| refine b1 ?_ ?_| refine b2 ?_ ?_| refine Br.mk ?_ ?_) <;>intro hc| exact rfl) <;>conv=>whnf)
   skip
   refine bj.by (fun ((i,L,ce):Nat×List Ex×Option Nat)=> ⟨[(0,.mlit es),(3,.ptr 64 fh 0 0),(4,.ptr 80 gj 0 0),(108,.lit 7 (l.map Ex.v)),(109,aO (l.map Ex.v).length),(110,aO i)],
       match ce with
       | none=> [(80,⟨gj,7,false,false,some [.agg [vi 0,vi 0,vi 0,vi 0,.bool false,.str [],.lit 7 []]]⟩),(64,⟨fh,7,false,false,some [.agg [vi 5,vi var,vi val.t,vi val.n,.bool val.b,.str val.s,.nils]]⟩)]
       | some tf=> [(80,⟨gj,7,false,false,some [.agg [vi 0,vi 0,vi 0,vi 0,.bool false,.str [],.lit 7 []]]⟩),(64,⟨fh,7,false,false,some [.agg [vi 5,vi var,vi val.t,vi val.n,.bool val.b,.str val.s,.sl 69 tf 0 L.length]]⟩),(69,⟨tf,7,true,false,some (L.map Ex.v)⟩)]⟩)
     (fun (i,L,ce)=>i≤l.length∧L.length=i∧L=(l.take i).map S∧(ce=none→L=[])∧(0 <i→ce≠none)) (fun (i,_)=>l.length - i) (0,[],none) (by(refine⟨?_,?_⟩ <;>repeat' (first| exact True.intro| refine ai ?_| refine And.intro ?_ ?_))) ⟨by simp,by simp,by simp,by simp,by simp⟩ ?_
   rintro⟨i,L,ce⟩ ⟨hi,hL,lZ,Dl,BQ⟩
   try dsimp only at hi hL lZ Dl BQ
   by_cases bY:i<l.length
   · obtain⟨u,hu⟩: ∃u,l[i]? =some u:=⟨_,bp bY⟩
     obtain⟨ru,nX,yV⟩:=ih u (List.mem_of_getElem? hu)
     have ng:=fun r k=>yV.imp r k
     have re:L++[S u]=(l.take (i+1)).map S:=by rw[lZ,List.take_add_one,hu];simp
     obtain⟨a9,b9,c9,d9,e9,f9,M9,mS,vN⟩:=u.br
     rw[mS] at nX
     obtain⟨a8,b8,c8,d8,e8,f8,M8,gl,lH⟩:=(S u).form
     rw[gl] at ng
     rcases lH with rfl| ⟨us,rfl⟩
     all_goals
       cases ce with
       | none=>
         obtain rfl:=Dl rfl
         (conv=>whnf);repeat' ((first| refine bc lX (aQ eZ vN) nX ng ?_| intro g| refine bD.mk _ (aA hu mS rfl) ?_| refine st ?_| (first| refine b1 ?_ ?_| refine b2 ?_ ?_| refine Br.mk ?_ ?_) <;>intro hc| exact rfl) <;>conv=>whnf)
         exact bk.mk (i+1,[S u],some g) (by first| omega| (dsimp only;omega)) ⟨(by first| omega| (dsimp only;omega)),by simp at hL ⊢;omega,re,by simp,by simp⟩ (by simp only[List.map_cons,List.map_nil,gl]; (refine⟨?_,?_⟩ <;>repeat' (first| exact True.intro| refine ai ?_| refine And.intro ?_ ?_)))
       | some tf=>
         (conv=>whnf);repeat' ((first| refine bc lX (aQ eZ vN) nX ng ?_| intro g| refine bD.mk _ (aA hu mS rfl) ?_| refine st ?_| (first| refine b1 ?_ ?_| refine b2 ?_ ?_| refine Br.mk ?_ ?_) <;>intro hc| exact rfl) <;>conv=>whnf)
         exact bk.mk (i+1,L++[S u],some g) (by first| omega| (dsimp only;omega)) ⟨(by first| omega| (dsimp only;omega)),by simp;omega,re,by simp,by simp⟩ (by simp only[List.map_append,List.map_cons,List.map_nil,gl]; (refine⟨?_,?_⟩ <;>repeat' (first| exact True.intro| refine ai ?_| refine And.intro ?_ ?_)))
   · have gP:i=l.length:=by omega
     subst gP
     rw[List.take_length] at lZ
     cases ce with
     | none=>exact absurd rfl (BQ cu)
     | some tf=>
       (conv=>whnf);repeat' ((first| intro g| refine bU.mk (⟨by simp,Ex.bq _⟩) ?_| refine st ?_| (first| refine b1 ?_ ?_| refine b2 ?_ ?_| refine Br.mk ?_ ?_) <;>intro hc| exact rfl) <;>conv=>whnf)
       exact⟨_,rfl,ir cu lZ⟩
end Go.AM
namespace Go.AM
theorem A6 {t:Int} {b:Bd} {c:Ex} (h:eS t b=some c): ∃v,c=pM v:=by
 unfold eS at h
 split at h
 · split at h
   · split at h
     · exact⟨_,(Option.some.inj h).symm⟩
     · cases h
   · cases h
 · split at h
   · exact⟨_,(Option.some.inj h).symm⟩
   · cases h
theorem RH {e:Ex} (h:e.size≤60):e.ty=e.b4:=by simp[Ex.ty];omega
theorem HJ {e:Ex} (h:e.b4≠0):e.b4=1∨e.b4=2∨e.b4=3:=by
 have key: ∀ (k:Nat) (e:Ex),e.size≤k→e.b4≠0→e.b4=1∨e.b4=2∨e.b4=3:=by
  intro k
  induction k with
  | zero=>intro e h;have:=e.size_pos;omega
  | succ k ih=>
    intro e hk ht
    obtain⟨op,var,val,nl,l⟩:=e
    have cJ: (Ex.mk op var val nl l).size=1+Ex.bK l:=by simp only[Ex.size]
    rcases eT ht with⟨rfl,rfl,_,hr,e⟩ | ⟨rfl,rfl,_,hv,e⟩ | ⟨x,rfl,rfl,_,_,hx,e⟩ | ⟨x,y,ho,rfl,_,_,hx,hy,e,e6,e45,e7,e8⟩ | ⟨x,y,z,rfl,rfl,_,_,hx,hy,hz,e⟩
    · rw[e];exact uh hr
    · rw[e]
      unfold cI at hv ⊢
      repeat' split
      all_goals first| omega| simp_all
    · omega
    · by_cases h6:op=6
      · have:=(e6 h6).2;omega
      by_cases HK:op=4∨op=5
      · have:=(e45 HK).2.2;omega
      by_cases h7:op=7
      · have:=(e7 h7).2.2;omega
      · have:=(e8 (by omega)).2.2;omega
    · have sx:Ex.bK [x,y,z]=x.size+(y.size+z.size):=by simp[Ex.bK]
      rw[e];exact ih y (by omega) hy
 exact key _ e (Nat.le_refl _) h
theorem Po {es:List V} {e:Ex} {t er:Int} {w:Va} {vv:V} (eZ:V.aj (.mlit es)=true)
  (dj:Ev E 338 [e.v] ⟨.tuple [vi t,vi er],[]⟩) (bE:Ev E 387 [.mlit es,e.v,vi t] ⟨vv,[]⟩) (fR:jq (some (pM w)) vv):Ev E 344 [.mlit es,e.v] ⟨(pM w).v,[]⟩:=by
 obtain⟨Xe,rfl,hX⟩:=fR
 obtain rfl:=hX _ rfl
 have DE:aD E 338=[]:=rfl
 have gR:aD E 387=[]:=rfl
 rw[uj] at bE ⊢
 obtain⟨a,b,c,d,e',f,L,hv,hp⟩:=e.br
 rw[hv] at dj bE ⊢
 have fS:V.ae [.mlit es,.agg [vi a,vi b,vi c,vi d,.bool e',.str f,L],vi t]=true:=by simp only[V.ae,eZ,hp];rfl
 have yS:V.ae [.agg [vi a,vi b,vi c,vi d,.bool e',.str f,L]]=true:=by simp only[V.ae,hp];rfl
 refine Ev.aG wE (wF _) rfl ?_
 (conv=>whnf);repeat' ((first| refine aq DE yS dj rfl ?_| refine aq gR fS bE rfl ?_| intro g| refine st ?_| (first| refine b1 ?_ ?_| refine b2 ?_ ?_| refine Br.mk ?_ ?_) <;>intro hc| exact rfl) <;>conv=>whnf)
theorem DZ {es:List V} {op var:Int} {val:Va} {nl:Bool} {t er:Int} {vv:V} (dN:op=1∨op=2) (eZ:V.aj (.mlit es)=true)
  (dj:Ev E 338 [(Ex.mk op var val nl []).v] ⟨.tuple [vi t,vi er],[]⟩) (bE:Ev E 387 [.mlit es,(Ex.mk op var val nl []).v,vi t] ⟨vv,[]⟩) (fR:jq none vv):Ev E 344 [.mlit es,(Ex.mk op var val nl []).v] ⟨(Ex.mk op var val true []).v,[]⟩:=by
 obtain⟨Xe,rfl,_⟩:=fR
 have gR:aD E 387=[]:=rfl
 obtain⟨a0,b0,c0,d0,e0,f0,L0,fB,fY⟩:=Xe.br
 rw[fB] at bE
 have hP:V.aj (.tuple [.agg [vi a0,vi b0,vi c0,vi d0,.bool e0,.str f0,L0],.bool (none:Option Ex).isSome])=true:=by
  simp only[V.aj,V.ae,Bool.and_eq_true] at fY ⊢
  simp[fY]
 have fS: ∀L,V.aj L=true→V.ae [.mlit es,.agg [vi op,vi var,vi val.t,vi val.n,.bool val.b,.str val.s,L],vi t]=true:=fun L h=>by simp[V.ae,V.aj,eZ,h] at*;exact eZ
 rw[Ex.bN] at dj bE ⊢
 rw[Ex.bN]
 have n13: ¬op=13:=by omega
 have n4: ¬op=4:=by omega
 have n5: ¬op=5:=by omega
 cases nl<;>simp only[List.map_nil,lv,cond_true,cond_false] at dj bE ⊢
 all_goals
  refine Ev.aG wE (wF _) rfl ?_
  (conv=>whnf);repeat' ((first| refine aq gR (fS _ rfl) bE hP ?_| intro g| refine av.mk _ (dj) ?_| refine st ?_| (first| refine b1 ?_ ?_| refine b2 ?_ ?_| refine Br.mk ?_ ?_) <;>intro hc| exact rfl) <;>conv=>whnf)
  rename_i fh gj
  refine bj.by (fun (i:Nat)=> ⟨[(3,.ptr 64 fh 0 0),(4,.ptr 80 gj 0 0),(109,vi 0),(110,vi 0)],[(64,⟨fh,7,false,false,some [.agg [vi op,vi var,vi val.t,vi val.n,.bool val.b,.str val.s,.nils]]⟩),(80,⟨gj,7,false,false,some [.agg [vi 0,vi 0,vi 0,vi 0,.bool false,.str [],.lit 7 []]]⟩)]⟩) (fun i=>i=0) (fun i=>0) 0 (by(refine⟨?_,?_⟩ <;>repeat' (first| exact True.intro| refine ai ?_| refine And.intro ?_ ?_))) rfl ?_
  rintro i rfl
  (conv=>whnf);repeat' ((first| intro g| refine st ?_| (first| refine b1 ?_ ?_| refine b2 ?_ ?_| refine Br.mk ?_ ?_) <;>intro hc| exact rfl) <;>conv=>whnf)
theorem Lt {l0:List bH} (hl:gZ l0): ∀ (k:Nat) (e:Ex),e.size≤k→k≤60→e.Fit→e.b4≠0→ ∃r,Ev E 344 [.mlit (ep (aH l0) 9),e.v] ⟨r,[]⟩∧iq (e.cT (aH l0)) r
 | 0,e,h,_,_,_=>by have:=e.size_pos;omega
 | k+1,.mk op var val nl l,h,hk,hf,ht=>by
   have hK:=Cm hl
   have eZ:=jS (aH l0) 9
   have cJ: (Ex.mk op var val nl l).size=1+Ex.bK l:=by simp only[Ex.size]
   have hlen:=Ex.length_le l
   have dj:=kS (Ex.mk op var val nl l) (by omega) hf
   rw[RH (by omega)] at dj
   have A4:=ui hK _ (Ex.mk op var val nl l) (Nat.le_refl _) (by omega) ht
   obtain⟨vv,bE,fR⟩: ∃v,Ev E 387 [.mlit (ep (aH l0) 9),(Ex.mk op var val nl l).v,vi (Ex.mk op var val nl l).b4] ⟨v,[]⟩∧jq (eS (Ex.mk op var val nl l).b4 ((Ex.mk op var val nl l).bd (aH l0))) v:=by
     obtain⟨a,b,c,d,e',f,L,hv,hp⟩:=(Ex.mk op var val nl l).br
     rw[hv] at A4 ⊢
     exact Lq eZ hp A4 (HJ ht) (yT hl _ _ (Nat.le_refl _) hf ht)
   have ih: ∀x ∈ l,x.b4≠0→ ∃r,Ev E 344 [.mlit (ep (aH l0) 9),x.v] ⟨r,[]⟩∧iq (x.cT (aH l0)) r:=fun x hx FR=>
     Lt hl k x (by have:=Ex.eU hx;omega) (by omega) (hf.mem x hx) FR
   have Lu: ∀x ∈ l,x.b4≠0→Ev E 340 [.mlit (ep (aH l0) 9),x.v] ⟨(x.bd (aH l0)).v,[]⟩:=fun x hx FR=>
     ui hK _ x (Nat.le_refl _) (by have:=Ex.eU hx;omega) FR
   rw[Ex.pN]
   cases uc:eS (Ex.mk op var val nl l).b4 ((Ex.mk op var val nl l).bd (aH l0)) with
   | some c=>
     obtain⟨w,rfl⟩:=A6 uc
     rw[uc] at fR
     exact⟨_,Po eZ dj bE fR,.inl rfl⟩
   | none=>
     rw[uc] at fR
     rcases eT ht with⟨rfl,rfl,_,hr,e⟩ | ⟨rfl,rfl,_,hv,e⟩ | ⟨x,rfl,rfl,_,_,hx,e⟩ | ⟨x,y,ho,rfl,_,_,hx,hy,e⟩ | ⟨x,y,z,rfl,rfl,_,_,hx,hy,hz,e⟩
     · exact⟨_,DZ (.inl rfl) eZ dj bE fR,.inl rfl⟩
     · exact⟨_,DZ (.inr rfl) eZ dj bE fR,.inl rfl⟩
     · exact RG ⟨by decide,by decide,by decide⟩ (by simp) eZ (by omega) dj bE fR (fun u hu=>ih u hu (by simp at hu;subst hu;omega))
     · have Lv: ∀u ∈ [x,y],∃r,Ev E 344 [.mlit (ep (aH l0) 9),u.v] ⟨r,[]⟩∧iq (u.cT (aH l0)) r:=fun u hu=>ih u hu (by simp at hu;rcases hu with rfl| rfl;exact hx;exact hy)
       have ox:=Lu x (by simp) hx
       have oy:=Lu y (by simp) hy
       by_cases h4:op=4
       · subst h4
         exact ab0 rfl eZ (by simp) dj bE fR ox oy Lv
       by_cases h5:op=5
       · subst h5
         exact ab1 rfl eZ (by simp) dj bE fR ox oy Lv
       · have hR:ba none op var val ([x,y].map (Ex.bd (aH l0))) ([x,y].map (Ex.cT (aH l0)))= .mk op var val true ([x,y].map (Ex.cT (aH l0))):=by simp[ba,pick,h4,h5]
         rw[hR]
         exact RG ⟨by omega,h4,h5⟩ (by simp) eZ (by simp) dj bE fR Lv
     · have Lv: ∀u ∈ [x,y,z],∃r,Ev E 344 [.mlit (ep (aH l0) 9),u.v] ⟨r,[]⟩∧iq (u.cT (aH l0)) r:=fun u hu=>ih u hu (by simp at hu;rcases hu with rfl| rfl| rfl;omega;exact hy;omega)
       exact WY rfl eZ (by simp) dj bE fR (Lu x (by simp) (by omega)) (Lu y (by simp) hy) (Lu z (by simp) (by omega)) Lv
end Go.AM
