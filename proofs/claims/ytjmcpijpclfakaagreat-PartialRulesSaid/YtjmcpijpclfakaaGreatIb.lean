/-
  Texts of the proof: POfC.
-/
import Derived.Test.YtjmcpijpclfakaaGreatIa
import Derived.Test.YtjmcpijpclfakaaGreatHc
set_option maxRecDepth 20000
set_option maxHeartbeats 4000000
set_option linter.unusedSimpArgs false
set_option linter.unusedVariables false
namespace Go.AM
theorem Li {K:Int→Bd} (val:Va) (nl:Bool) (hr:val.right=true):Ev E 340 [.mlit (ep K 9),(Ex.mk 1 0 val nl []).v] ⟨(gK val).v,[]⟩:=by
 have eZ:=jS K 9
 have ht:=uh hr
 obtain⟨t,n,b,s⟩:=val
 dsimp only at ht
 rw[Ex.bN]
 generalize ep K 9=es at*
 rcases ht with rfl| rfl| rfl
 · have h:=AV n b s
   simp only[Va.v] at h
   refine Ev.aG tX (tY _) rfl ?_
   cases nl<;>simp only[List.map_nil,lv,cond_true,cond_false]
   all_goals (conv=>whnf);repeat' ((first| intro g| refine av.mk _ (h) ?_| refine st ?_| (first| refine b1 ?_ ?_| refine b2 ?_ ?_| refine Br.mk ?_ ?_) <;>intro hc| exact rfl) <;>conv=>whnf)
 · have h:=AW n b s
   simp only[Va.v] at h
   refine Ev.aG tX (tY _) rfl ?_
   cases b<;>cases nl<;>simp only[List.map_nil,lv,cond_true,cond_false] at h ⊢
   all_goals (conv=>whnf);repeat' ((first| intro g| refine av.mk _ (h) ?_| refine st ?_| (first| refine b1 ?_ ?_| refine b2 ?_ ?_| refine Br.mk ?_ ?_) <;>intro hc| exact rfl) <;>conv=>whnf)
 · have h:=IV n b s
   simp only[Va.v] at h
   refine Ev.aG tX (tY _) rfl ?_
   cases nl<;>simp only[List.map_nil,lv,cond_true,cond_false]
   all_goals (conv=>whnf);repeat' ((first| intro g| refine av.mk _ (h) ?_| refine st ?_| (first| refine b1 ?_ ?_| refine b2 ?_ ?_| refine Br.mk ?_ ?_) <;>intro hc| exact rfl) <;>conv=>whnf)
theorem Lj (K:Int→Bd) {v:Int} (h:cI v≠0) (z:V):jR false z (ep K 9) (vi v)= .done (K v).v:=by
 have hv:v=1∨v=2∨v=3∨v=4∨v=5∨v=6∨v=7∨v=8∨v=9:=by
  have: ¬ (v< 1∨9 <v):=fun hh=>h (yC hh)
  exact nine this
 rcases hv with rfl| rfl| rfl| rfl| rfl| rfl| rfl| rfl| rfl<;>rfl
theorem Bd.form (b:Bd): ∃W,b.v= .agg [vi b.lo,vi b.hi,W,.bool b.some,.bool b.text]∧(W= .nils∨ ∃ys,W= .lit 1 ys):=by
 refine⟨_,rfl,?_⟩
 rcases lj b.nl b.ws with⟨e,_⟩ | e
 · exact .inl e
 · exact .inr ⟨_,e⟩
theorem WQ {K:Int→Bd} (var:Int) (nl:Bool) (h:cI var≠0):Ev E 340 [.mlit (ep K 9),(Ex.mk 2 var aM nl []).v] ⟨(K var).v,[]⟩:=by
 have eZ:=jS K 9
 have hz:=Lj K h (.agg [.int .i64 0,.int .i64 0,.nils,.bool false,.bool false])
 rw[Ex.bN]
 generalize ep K 9=es at*
 obtain⟨W,hW,WR⟩:=(K var).form
 rw[hW] at hz ⊢
 refine Ev.aG tX (tY _) rfl ?_
 rcases WR with rfl| ⟨ys,rfl⟩ <;>cases nl<;>simp only[List.map_nil,lv,cond_true,cond_false]
 all_goals (conv=>whnf);repeat' ((first| intro g| refine bD.mk _ (hz) ?_| refine st ?_| (first| refine b1 ?_ ?_| refine b2 ?_ ?_| refine Br.mk ?_ ?_) <;>intro hc| exact rfl) <;>conv=>whnf)
theorem WS {K:Int→Bd} {x:Ex} (hx:Ev E 340 [.mlit (ep K 9),x.v] ⟨(x.bd K).v,[]⟩) (nl:Bool):Ev E 340 [.mlit (ep K 9),(Ex.mk 3 0 aM nl [x]).v] ⟨(cS K 3 0 aM [x.bd K]).v,[]⟩:=by
 have eZ:=jS K 9
 have cm:aD E 340=[]:=rfl
 obtain⟨a1,b1,c1,d1,e1,f1,L1,fX,mR⟩:=x.br
 rw[fX] at hx
 generalize ep K 9=es at*
 generalize x.bd K=bx at*
 have fS:V.ae [.mlit es,.agg [vi a1,vi b1,vi c1,vi d1,.bool e1,.str f1,L1]]=true:=by simp only[V.ae,eZ,mR,Bool.and_self]
 rw[Ex.bN]
 simp only[List.map_cons,List.map_nil,cP,fX,aM]
 refine Ev.aG tX (tY _) rfl ?_
 (conv=>whnf);repeat' ((first| refine aq cm fS hx (Bd.pure _) ?_| intro g| refine st ?_| (first| refine b1 ?_ ?_| refine b2 ?_ ?_| refine Br.mk ?_ ?_) <;>intro hc| exact rfl) <;>conv=>whnf)
theorem abX {K:Int→Bd} {x y z:Ex} {t:Int} {m n:Nat} (hx:Ev E 340 [.mlit (ep K 9),x.v] ⟨(x.bd K).v,[]⟩) (hy:Ev E 340 [.mlit (ep K 9),y.v] ⟨(y.bd K).v,[]⟩) (hz:Ev E 340 [.mlit (ep K 9),z.v] ⟨(z.bd K).v,[]⟩)
   (oy:yP t m (y.bd K)) (oz:yP t n (z.bd K)) (hm:m< 100) (hn:n< 100) (nl:Bool):Ev E 340 [.mlit (ep K 9),(Ex.mk 13 0 aM nl [x,y,z]).v] ⟨(cS K 13 0 aM [x.bd K,y.bd K,z.bd K]).v,[]⟩:=by
 have eZ:=jS K 9
 have cm:aD E 340=[]:=rfl
 have gR:aD E 378=[]:=rfl
 obtain⟨a1,b1,c1,d1,e1,f1,L1,fX,mR⟩:=x.br
 obtain⟨a2,b2,c2,d2,e2,f2,L2,mn,xM⟩:=y.br
 obtain⟨a3,b3,c3,d3,e3,f3,L3,RE,Pm⟩:=z.br
 rw[fX] at hx
 rw[mn] at hy
 rw[RE] at hz
 generalize ep K 9=es at*
 generalize x.bd K=bx at*
 generalize y.bd K=Ji at*
 generalize z.bd K=bz at*
 have fS:V.ae [.mlit es,.agg [vi a1,vi b1,vi c1,vi d1,.bool e1,.str f1,L1]]=true:=by simp only[V.ae,eZ,mR,Bool.and_self]
 have yS:V.ae [.mlit es,.agg [vi a2,vi b2,vi c2,vi d2,.bool e2,.str f2,L2]]=true:=by simp only[V.ae,eZ,xM,Bool.and_self]
 have hpc:V.ae [.mlit es,.agg [vi a3,vi b3,vi c3,vi d3,.bool e3,.str f3,L3]]=true:=by simp only[V.ae,eZ,Pm,Bool.and_self]
 have hR:cS K 13 0 aM [bx,Ji,bz]=if bx.lo=1 then Ji else if bx.hi=0 then bz else either Ji bz:=rfl
 rw[hR,Ex.bN]
 simp only[List.map_cons,List.map_nil,cP,fX,mn,RE,aM]
 by_cases c1:bx.lo=1
 · rw[if_pos c1]
   obtain⟨W,hW,WR⟩:=Ji.form
   rw[hW] at hy ⊢
   rcases WR with rfl| ⟨ys,rfl⟩
   all_goals
     refine Ev.aG tX (tY _) rfl ?_
     (conv=>whnf);repeat' ((first| refine aq cm fS hx (Bd.pure _) ?_| refine aq cm yS hy rfl ?_| intro g| refine st ?_| (first| refine b1 ?_ ?_| refine b2 ?_ ?_| refine Br.mk ?_ ?_) <;>intro hc| exact rfl) <;>conv=>whnf)
 · rw[if_neg c1]
   by_cases c2:bx.hi=0
   · rw[if_pos c2]
     obtain⟨W,hW,WR⟩:=bz.form
     rw[hW] at hz ⊢
     rcases WR with rfl| ⟨ys,rfl⟩
     all_goals
      refine Ev.aG tX (tY _) rfl ?_
      (conv=>whnf);repeat' ((first| refine aq cm fS hx (Bd.pure _) ?_| refine aq cm hpc hz rfl ?_| intro g| refine st ?_| (first| refine b1 ?_ ?_| refine b2 ?_ ?_| refine Br.mk ?_ ?_) <;>intro hc| exact rfl) <;>conv=>whnf)
   · rw[if_neg c2]
     obtain⟨w,hw,jY⟩:=I6 oy oz hm hn
     have himp:=fun r k=>jY.imp r k
     have hpd:V.ae [Ji.v,bz.v]=true:=by simp only[V.ae,Bd.pure,Bool.and_self]
     obtain⟨W,hW,WR⟩:=(either Ji bz).form
     rw[hW] at himp ⊢
     rcases WR with rfl| ⟨ys,rfl⟩
     all_goals
      refine Ev.aG tX (tY _) rfl ?_
      (conv=>whnf);repeat' ((first| refine aq cm fS hx (Bd.pure _) ?_| refine aq cm yS hy (Bd.pure _) ?_| refine aq cm hpc hz (Bd.pure _) ?_| refine bc gR hpd hw himp ?_| intro g| refine st ?_| (first| refine b1 ?_ ?_| refine b2 ?_ ?_| refine Br.mk ?_ ?_) <;>intro hc| exact rfl) <;>conv=>whnf)
theorem abY {K:Int→Bd} {x y:Ex} {op:Int} (dN:4≤op∧op≤12) (hx:Ev E 340 [.mlit (ep K 9),x.v] ⟨(x.bd K).v,[]⟩) (hy:Ev E 340 [.mlit (ep K 9),y.v] ⟨(y.bd K).v,[]⟩)
  (lx: (x.bd K).ws.length< 1000000) (ly: (y.bd K).ws.length< 1000000) (nl:Bool):Ev E 340 [.mlit (ep K 9),(Ex.mk op 0 aM nl [x,y]).v] ⟨(yO op (x.bd K) (y.bd K)).v,[]⟩:=by
 have eZ:=jS K 9
 have cm:aD E 340=[]:=rfl
 obtain⟨g0,hg,hmg,hgf⟩:=afG dN
 have hgf:=hgf _ _ lx ly
 obtain⟨p,q,WT⟩:=Cn op (x.bd K) (y.bd K)
 rw[WT] at hgf ⊢
 obtain⟨a1,b1,c1,d1,e1,f1,L1,fX,mR⟩:=x.br
 obtain⟨a2,b2,c2,d2,e2,f2,L2,mn,xM⟩:=y.br
 rw[fX] at hx
 rw[mn] at hy
 generalize ep K 9=es at*
 generalize x.bd K=bx at*
 generalize y.bd K=Ji at*
 have fS:V.ae [.mlit es,.agg [vi a1,vi b1,vi c1,vi d1,.bool e1,.str f1,L1]]=true:=by simp only[V.ae,eZ,mR,Bool.and_self]
 have yS:V.ae [.mlit es,.agg [vi a2,vi b2,vi c2,vi d2,.bool e2,.str f2,L2]]=true:=by simp only[V.ae,eZ,xM,Bool.and_self]
 have hpd:V.ae [bx.v,Ji.v]=true:=by simp only[V.ae,Bd.pure,Bool.and_self]
 have hoi:=Ld dN (r:=[vi 0,vi 0,vi 0,.bool false,.str [],.lit 7 [.agg [vi a1,vi b1,vi c1,vi d1,.bool e1,.str f1,L1],.agg [vi a2,vi b2,vi c2,vi d2,.bool e2,.str f2,L2]]]) rfl
 have n1: ¬op=1:=by omega
 have n2: ¬op=2:=by omega
 have n3: ¬op=3:=by omega
 have n13: ¬op=13:=by omega
 have hi0:0≤op - 4:=by omega
 have hi9:op - 4 < 9:=by omega
 rw[Ex.bN]
 simp only[List.map_cons,List.map_nil,cP,fX,mn,aM]
 refine Ev.aG tX (tY _) rfl ?_
 (conv=>whnf);repeat' ((first| refine aq cm fS hx (Bd.pure _) ?_| refine aq cm yS hy (Bd.pure _) ?_| refine aq hmg hpd hgf rfl ?_| intro g| refine bD.mk _ (hg) ?_| refine av.mk _ (Co) ?_| refine av.mk _ (hoi) ?_| refine st ?_| (first| refine b1 ?_ ?_| refine b2 ?_ ?_| refine Br.mk ?_ ?_) <;>intro hc| exact rfl) <;>conv=>whnf)
theorem ui {K:Int→Bd} (hK:KOk K): ∀ (k:Nat) (e:Ex),e.size≤k→k< 100→e.b4≠0→Ev E 340 [.mlit (ep K 9),e.v] ⟨(e.bd K).v,[]⟩
 | 0,e,h,_,_=>by have:=e.size_pos;omega
 | k+1,.mk op var val nl l,h,hk,ht=>by
   have hc:=eT ht
   rw[Ex.nc]
   have cJ: (Ex.mk op var val nl l).size=1+Ex.bK l:=by simp only[Ex.size]
   rcases hc with⟨rfl,rfl,rfl,hr,e⟩ | ⟨rfl,rfl,rfl,hv,e⟩ | ⟨x,rfl,rfl,rfl,rfl,hx,e⟩ | ⟨x,y,ho,rfl,rfl,rfl,hx,hy,e,_⟩ | ⟨x,y,z,rfl,rfl,rfl,rfl,hx,hy,hz,e⟩
   · exact Li val nl hr
   · exact WQ var nl hv
   · have sx:Ex.bK [x]=x.size:=by simp[Ex.bK]
     exact WS (ui hK k x (by omega) (by omega) (by omega)) nl
   · have sx:Ex.bK [x,y]=x.size+y.size:=by simp[Ex.bK]
     have l1:=(oK hK _ x (Nat.le_refl _) hx).len
     have l2:=(oK hK _ y (Nat.le_refl _) hy).len
     exact abY ho (ui hK k x (by omega) (by omega) hx) (ui hK k y (by omega) (by omega) hy) (by omega) (by omega) nl
   · have sx:Ex.bK [x,y,z]=x.size+(y.size+z.size):=by simp[Ex.bK]
     have oz:=oK hK _ z (Nat.le_refl _) (by omega)
     rw[hz] at oz
     exact abX (ui hK k x (by omega) (by omega) (by omega)) (ui hK k y (by omega) (by omega) hy) (ui hK k z (by omega) (by omega) (by omega)) (oK hK _ y (Nat.le_refl _) hy) oz (by omega) (by omega) nl
end Go.AM
