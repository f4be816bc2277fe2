/-
  Texts of the proof: PSimR13a, PSimR13b.
-/
import Derived.Test.YtjmcpijpclfakaaGreatKa
import Derived.Test.YtjmcpijpclfakaaGreatB
set_option maxRecDepth 20000
set_option maxHeartbeats 4000000
set_option linter.unusedSimpArgs false
set_option linter.unusedVariables false
namespace Go.AM
theorem Lw {x y z:Ex} {l:List Ex} (hl:l=[x,y,z]) {Bx By Bz:Bd} {sv:V} {S:Ex→Ex} {t:Int} {val:Va} {var:Int} {nl:Bool} {vv:V} (eN:Sv sv) (hlen:l.length< 1000000)
  (dj:Ev E 341 [(Ex.mk 13 var val nl l).v] ⟨.tuple [vi t,vi 0],[]⟩) (bE:Ev E 345 [(Ex.mk 13 var val nl l).v,vi t,sv] ⟨vv,[]⟩) (fR:jq none vv)
  (fH:Ev E 334 [(Ex.mk 13 var val nl l).v] ⟨(Ex.mk 13 var val nl l).norm.ov,[]⟩)
  (gL:Ev E 342 [x.v,sv] ⟨.tuple [vi Bx.lo,vi Bx.hi],[]⟩)
  (ih: ∀x ∈ l,∃r,Ev E 321 [x.v,sv] ⟨r,[]⟩∧iq (S x) r) (q1:Bx.lo=1): ∃r,Ev E 321 [(Ex.mk 13 var val nl l).v,sv] ⟨r,[]⟩∧iq (ba none 13 var val [Bx,By,Bz] (l.map S)) r:=by
 obtain⟨Xe,rfl,_⟩:=fR
 have cm:aD E 342=[]:=rfl
 have gR:aD E 345=[]:=rfl
 have lX:aD E 321=[]:=rfl
 obtain⟨a0,b0,c0,d0,e0,f0,L0,fB,fY⟩:=Xe.br
 rw[fB] at bE
 have hP:V.aj (.tuple [.agg [vi a0,vi b0,vi c0,vi d0,.bool e0,.str f0,L0],.bool (none:Option Ex).isSome])=true:=by
  simp only[V.aj,V.ae,Bool.and_eq_true] at fY ⊢
  simp[fY]
 have cu:0 <l.length:=by rw[hl];simp
 have sr:l.length=3:=by rw[hl];rfl
 have lm: (l.map Ex.v).length=3:=by rw[List.length_map,sr]
 have hx:l[0]? =some x:=by rw[hl];rfl
 obtain⟨rx,hex,uk⟩:=ih x (by rw[hl];simp)
 have xx:=fun r k=>uk.imp r k
 obtain⟨Hx,Hy,Hz,HA,HB,HC,tW,fD,gX⟩:=x.br
 rw[fD] at gL hex
 have hy:l[1]? =some y:=by rw[hl];rfl
 obtain⟨ry,pO,um⟩:=ih y (by rw[hl];simp)
 have wK:=fun r k=>um.imp r k
 obtain⟨HD,HE,HF,HG,HH,HI,xL,gi,kR⟩:=y.br
 rw[gi] at pO
 have hz:l[2]? =some z:=by rw[hl];rfl
 obtain⟨rz,Lr,Pn⟩:=ih z (by rw[hl];simp)
 have RF:=fun r k=>Pn.imp r k
 obtain⟨a1z,b1z,c1z,d1z,e1z,f1z,N4,Ab,KP⟩:=z.br
 rw[Ab] at Lr
 have rn:lv nl (l.map Ex.v)= .lit 7 (l.map Ex.v):=by
  cases l with
  | nil=>simp at cu
  | cons y ys=>rfl
 have sw: (Ex.mk 13 var val nl l).norm.ov= .agg [vi 13,vi var,vi val.t,vi val.n,.bool val.b,.str val.s,.own 7 ((l.map Ex.norm).map Ex.v)]:=by
  cases l with
  | nil=>simp at cu
  | cons y ys=>simp only[Ex.norm,Ex.dO,Ex.ov];rfl
 rw[sw] at fH
 rw[Ex.bN,rn] at dj bE fH ⊢
 have fS: ∀w,V.aj w=true→V.ae [.agg [vi 13,vi var,vi val.t,vi val.n,.bool val.b,.str val.s,.lit 7 (l.map Ex.v)],vi t,w]=true:=fun w h=>by simp only[V.ae,h,Bool.and_self,Bool.and_true];rfl
 have hR:ba none 13 var val [Bx,By,Bz] (l.map S)=S y:=by simp[hl,ba,pick,q1]
 rw[hR]
 obtain⟨a8,b8,c8,d8,e8,f8,M8,gl,lH⟩:=(S y).form
 rw[gl] at wK
 refine⟨(S y).v,?_,.inl rfl⟩
 rw[gl]
 rcases lH with rfl| ⟨us,rfl⟩ <;>rcases eN with rfl| ⟨ks,rfl⟩
 all_goals
  refine Ev.aG kE (kF _) rfl ?_
  (conv=>whnf);repeat' ((first| intro g| refine bD.mk _ (aA hx fD rfl) ?_| refine bD.mk _ (aA hy gi rfl) ?_| refine bD.mk _ (aA hz Ab rfl) ?_| refine av.mk _ (dj) ?_| refine av.mk _ (fH) ?_| refine st ?_| (first| refine b1 ?_ ?_| refine b2 ?_ ?_| refine Br.mk ?_ ?_) <;>intro hc| exact rfl| ((refine av.mk _ bE ?_;simp only[cM,bC,hP,cond_true,List.append_nil])) | refine aq cm (aQ gX rfl) gL rfl ?_| refine bc lX (aQ kR rfl) pO wK ?_) <;>conv=>whnf)
end Go.AM
namespace Go.AM
theorem Lx {x y z:Ex} {l:List Ex} (hl:l=[x,y,z]) {Bx By Bz:Bd} {sv:V} {S:Ex→Ex} {t:Int} {val:Va} {var:Int} {nl:Bool} {vv:V} (eN:Sv sv) (hlen:l.length< 1000000)
  (dj:Ev E 341 [(Ex.mk 13 var val nl l).v] ⟨.tuple [vi t,vi 0],[]⟩) (bE:Ev E 345 [(Ex.mk 13 var val nl l).v,vi t,sv] ⟨vv,[]⟩) (fR:jq none vv)
  (fH:Ev E 334 [(Ex.mk 13 var val nl l).v] ⟨(Ex.mk 13 var val nl l).norm.ov,[]⟩)
  (gL:Ev E 342 [x.v,sv] ⟨.tuple [vi Bx.lo,vi Bx.hi],[]⟩)
  (ih: ∀x ∈ l,∃r,Ev E 321 [x.v,sv] ⟨r,[]⟩∧iq (S x) r) (q1: ¬Bx.lo=1) (q2:Bx.hi=0): ∃r,Ev E 321 [(Ex.mk 13 var val nl l).v,sv] ⟨r,[]⟩∧iq (ba none 13 var val [Bx,By,Bz] (l.map S)) r:=by
 obtain⟨Xe,rfl,_⟩:=fR
 have cm:aD E 342=[]:=rfl
 have gR:aD E 345=[]:=rfl
 have lX:aD E 321=[]:=rfl
 obtain⟨a0,b0,c0,d0,e0,f0,L0,fB,fY⟩:=Xe.br
 rw[fB] at bE
 have hP:V.aj (.tuple [.agg [vi a0,vi b0,vi c0,vi d0,.bool e0,.str f0,L0],.bool (none:Option Ex).isSome])=true:=by
  simp only[V.aj,V.ae,Bool.and_eq_true] at fY ⊢
  simp[fY]
 have cu:0 <l.length:=by rw[hl];simp
 have sr:l.length=3:=by rw[hl];rfl
 have lm: (l.map Ex.v).length=3:=by rw[List.length_map,sr]
 have hx:l[0]? =some x:=by rw[hl];rfl
 obtain⟨rx,hex,uk⟩:=ih x (by rw[hl];simp)
 have xx:=fun r k=>uk.imp r k
 obtain⟨Hx,Hy,Hz,HA,HB,HC,tW,fD,gX⟩:=x.br
 rw[fD] at gL hex
 have hy:l[1]? =some y:=by rw[hl];rfl
 obtain⟨ry,pO,um⟩:=ih y (by rw[hl];simp)
 have wK:=fun r k=>um.imp r k
 obtain⟨HD,HE,HF,HG,HH,HI,xL,gi,kR⟩:=y.br
 rw[gi] at pO
 have hz:l[2]? =some z:=by rw[hl];rfl
 obtain⟨rz,Lr,Pn⟩:=ih z (by rw[hl];simp)
 have RF:=fun r k=>Pn.imp r k
 obtain⟨a1z,b1z,c1z,d1z,e1z,f1z,N4,Ab,KP⟩:=z.br
 rw[Ab] at Lr
 have rn:lv nl (l.map Ex.v)= .lit 7 (l.map Ex.v):=by
  cases l with
  | nil=>simp at cu
  | cons y ys=>rfl
 have sw: (Ex.mk 13 var val nl l).norm.ov= .agg [vi 13,vi var,vi val.t,vi val.n,.bool val.b,.str val.s,.own 7 ((l.map Ex.norm).map Ex.v)]:=by
  cases l with
  | nil=>simp at cu
  | cons y ys=>simp only[Ex.norm,Ex.dO,Ex.ov];rfl
 rw[sw] at fH
 rw[Ex.bN,rn] at dj bE fH ⊢
 have fS: ∀w,V.aj w=true→V.ae [.agg [vi 13,vi var,vi val.t,vi val.n,.bool val.b,.str val.s,.lit 7 (l.map Ex.v)],vi t,w]=true:=fun w h=>by simp only[V.ae,h,Bool.and_self,Bool.and_true];rfl
 have hR:ba none 13 var val [Bx,By,Bz] (l.map S)=S z:=by simp[hl,ba,pick,q1,q2]
 rw[hR]
 obtain⟨a8,b8,c8,d8,e8,f8,M8,gl,lH⟩:=(S z).form
 rw[gl] at RF
 refine⟨(S z).v,?_,.inl rfl⟩
 rw[gl]
 rcases lH with rfl| ⟨us,rfl⟩ <;>rcases eN with rfl| ⟨ks,rfl⟩
 all_goals
  refine Ev.aG kE (kF _) rfl ?_
  (conv=>whnf);repeat' ((first| intro g| refine bD.mk _ (aA hx fD rfl) ?_| refine bD.mk _ (aA hy gi rfl) ?_| refine bD.mk _ (aA hz Ab rfl) ?_| refine av.mk _ (dj) ?_| refine av.mk _ (fH) ?_| refine st ?_| (first| refine b1 ?_ ?_| refine b2 ?_ ?_| refine Br.mk ?_ ?_) <;>intro hc| exact rfl| ((refine av.mk _ bE ?_;simp only[cM,bC,hP,cond_true,List.append_nil])) | refine aq cm (aQ gX rfl) gL rfl ?_| refine bc lX (aQ KP rfl) Lr RF ?_) <;>conv=>whnf)
end Go.AM
