/-
  Texts of the proof: PFits, PTopA.
-/
import Derived.Test.YtjmcpijpclfakaaGreatGa
import Derived.Test.YtjmcpijpclfakaaGreatF
import Derived.Test.YtjmcpijpclfakaaGreatHa
import Derived.Test.YtjmcpijpclfakaaGreatLb
import Derived.Test.YtjmcpijpclfakaaGreatHd
import Derived.Test.YtjmcpijpclfakaaGreatB
set_option maxRecDepth 20000
set_option maxHeartbeats 4000000
set_option linter.unusedSimpArgs false
set_option linter.unusedVariables false
namespace Go.AM
def Ax (v:Va):Int:=bif v.b then 1 else v.n
def lW (x:b5) (k:bH):Bool:=
 if cI k.var=0 then true else if cI k.var=3 then decide ((x.val k.var).s ∈ k.texts)
 else !(decide (Ax (x.val k.var) <k.lo) || decide (k.hi<Ax (x.val k.var)))
theorem nz (v:Va):V.aj (mc v)=true:=by
 unfold mc
 repeat' split
 all_goals rfl
theorem b5.pure (x:b5):V.aj x.v=true:=rfl
theorem MF (x:b5) (v:Int):Ev E 392 [.agg [vi 2,vi v,vi 0,vi 0,.bool false,.str [],.lit 7 []],x.v] ⟨mc (x.val v),[]⟩:=by
 have h:=pH x v
 have hp:=nz (x.val v)
 generalize mc (x.val v)=iv at*
 have cm:aD E 405=[]:=rfl
 simp only[b5.v] at h ⊢
 refine Ev.aG ju (jv _) rfl ?_
 (conv=>whnf);repeat' ((first| intro g| refine st ?_| (first| refine b1 ?_ ?_| refine b2 ?_ ?_| refine Br.mk ?_ ?_) <;>intro hc| exact rfl) <;>conv=>whnf)
 rename_i ed fh
 refine bj.by (fun (i:Nat)=> ⟨[(2,.ptr 48 ed 0 0),(3,.ptr 64 fh 0 0),(5,.sl 97 g 0 0),(13,vi 0),(14,vi 0)],[(48,⟨ed,7,false,false,some [_]⟩),(64,⟨fh,9,false,false,some [_]⟩),(97,⟨g,1,true,false,some []⟩)]⟩) (fun i=>i=0) (fun i=>0) 0 (by(refine⟨?_,?_⟩ <;>repeat' (first| exact True.intro| refine ai ?_| refine And.intro ?_ ?_))) rfl ?_
 rintro i rfl
 (conv=>whnf);repeat' ((first| refine aq cm rfl h hp ?_| intro g| refine st ?_| (first| refine b1 ?_ ?_| refine b2 ?_ ?_| refine Br.mk ?_ ?_) <;>intro hc| exact rfl) <;>conv=>whnf)
 all_goals simp only[hp]
 all_goals (conv=>whnf);repeat' ((first| intro g| refine st ?_| (first| refine b1 ?_ ?_| refine b2 ?_ ?_| refine Br.mk ?_ ?_) <;>intro hc| exact rfl) <;>conv=>whnf)
theorem MG (x:b5) (v:Int): ∃w er,Ev E 348 [.agg [vi 2,vi v,vi 0,vi 0,.bool false,.str [],.lit 7 []],x.v] ⟨.tuple [Va.v w,vi er],[]⟩∧(cI v=0→er≠0)∧(cI v≠0→er=0∧w=x.val v):=by
 have dj:=kS (.mk 2 v aM false []) (by simp[Ex.size,Ex.bK]) (.mk _ _ _ _ _ (by simp[aM]) (by simp))
 have e2: (Ex.mk 2 v aM false []).v= .agg [vi 2,vi v,vi 0,vi 0,.bool false,.str [],.lit 7 []]:=by
   rw[Ex.bN];rfl
 rw[e2] at dj
 have I2: (Ex.mk 2 v aM false []).b4=cI v:=by
   simp[Ex.b4,Ex.xq,jt,eJ,many,Va.zero,aM]
 have her: (Ex.mk 2 v aM false []).err=if cI v=0 then 30 else 0:=by
   simp[Ex.err,Ex.size,Ex.bK,I2]
 rw[her] at dj
 generalize (Ex.mk 2 v aM false []).ty=t at dj
 have ei:=MF x v
 have hw:=Dz x v
 have hp:=nz (x.val v)
 generalize mc (x.val v)=iv at*
 have cm:aD E 391=[]:=rfl
 have gR:aD E 392=[]:=rfl
 have B9:V.ae [iv]=true:=by simp[V.ae,hp]
 simp only[b5.v] at ei ⊢
 by_cases h:cI v=0
 · rw[if_pos h] at dj
   refine⟨aM,30,?_,fun _=>by decide,fun hh=>absurd h hh⟩
   refine Ev.aG KT (KU _) rfl ?_
   (conv=>whnf);repeat' ((first| intro g| refine av.mk _ (dj) ?_| refine st ?_| (first| refine b1 ?_ ?_| refine b2 ?_ ?_| refine Br.mk ?_ ?_) <;>intro hc| exact rfl) <;>conv=>whnf)
 · rw[if_neg h] at dj
   refine⟨x.val v,0,?_,fun hh=>absurd hh h,fun _=> ⟨rfl,rfl⟩⟩
   generalize x.val v=w at*
   refine Ev.aG KT (KU _) rfl ?_
   (conv=>whnf);repeat' ((first| refine aq gR rfl ei hp ?_| refine aq cm B9 hw rfl ?_| intro g| refine av.mk _ (dj) ?_| refine st ?_| (first| refine b1 ?_ ?_| refine b2 ?_ ?_| refine Br.mk ?_ ?_) <;>intro hc| exact rfl) <;>conv=>whnf)
theorem wh (x:b5) {v:Int} (h:cI v≠0): (cI v=1∧ ∃n,x.val v=⟨1,n,false,[]⟩)∨(cI v=2∧ ∃b,x.val v=⟨2,0,b,[]⟩)∨(cI v=3∧ ∃s,x.val v=⟨3,0,false,s⟩):=by
 have hv:=nine (n:=v) (fun hh=>h (yC hh))
 rcases hv with rfl| rfl| rfl| rfl| rfl| rfl| rfl| rfl| rfl
 · exact .inl ⟨rfl,_,rfl⟩
 · exact .inr (.inr ⟨rfl,_,rfl⟩)
 · exact .inr (.inr ⟨rfl,_,rfl⟩)
 · exact .inl ⟨rfl,_,rfl⟩
 · exact .inl ⟨rfl,_,rfl⟩
 · exact .inr (.inl ⟨rfl,_,rfl⟩)
 · exact .inl ⟨rfl,_,rfl⟩
 · exact .inl ⟨rfl,_,rfl⟩
 · exact .inl ⟨rfl,_,rfl⟩
theorem P3 (x:b5) (k:bH) (hk:k.texts.length< 1000):Ev E 347 [k.v,.eptr x.v 0] ⟨.bool (!lW x k),[]⟩:=by
 obtain⟨t,Ke,ht⟩:=k.na
 obtain⟨w,er,ei,h0,h1⟩:=MG x k.var
 have Sd:=ht.pure (jy _)
 have cm:aD E 349=[]:=rfl
 rw[Ke]
 unfold lW
 simp only[b5.v] at ei ⊢
 by_cases h:cI k.var=0
 · have cu:=h0 h
   rw[if_pos h]
   simp only[Va.v] at ei
   refine Ev.aG Hg (Hh _) rfl ?_
   (conv=>whnf);repeat' ((first| intro g| refine av.mk _ (ei) ?_| refine st ?_| (first| refine b1 ?_ ?_| refine b2 ?_ ?_| refine Br.mk ?_ ?_) <;>intro hc| exact rfl) <;>conv=>whnf)
 · rw[if_neg h]
   obtain⟨rfl,rfl⟩:=h1 h
   rcases wh x h with⟨e,n,hv⟩ | ⟨e,b,hv⟩ | ⟨e,s,hv⟩
   · rw[if_neg (by rw[e];decide)]
     rw[hv] at ei ⊢
     simp only[Va.v] at ei
     have hc:=AV n false []
     simp only[Va.v] at hc
     simp only[Ax,cond_false]
     refine Ev.aG Hg (Hh _) rfl ?_
     (conv=>whnf);repeat' ((first| intro g| refine av.mk _ (ei) ?_| refine av.mk _ (hc) ?_| refine st ?_| (first| refine b1 ?_ ?_| refine b2 ?_ ?_| refine Br.mk ?_ ?_) <;>intro hc| exact rfl) <;>conv=>whnf)
     all_goals (simp only[nb] at hc ⊢;simp[Ax,hc] <;>rfl)
   · rw[if_neg (by rw[e];decide)]
     rw[hv] at ei ⊢
     simp only[Va.v] at ei
     have hc:=AW 0 b []
     simp only[Va.v] at hc
     cases b
     all_goals
      simp only[cond_true,cond_false] at hc
      refine Ev.aG Hg (Hh _) rfl ?_
      (conv=>whnf);repeat' ((first| intro g| refine av.mk _ (ei) ?_| refine av.mk _ (hc) ?_| refine st ?_| (first| refine b1 ?_ ?_| refine b2 ?_ ?_| refine Br.mk ?_ ?_) <;>intro hc| exact rfl) <;>conv=>whnf)
      all_goals (simp only[nb] at hc ⊢;simp[Ax,hc] <;>rfl)
   · rw[if_pos e]
     rw[hv] at ei ⊢
     simp only[Va.v] at ei
     have hc:=qw ht s (by omega)
     have fS:V.ae [t,.str s]=true:=by simp[V.ae,V.aj,Sd]
     refine Ev.aG Hg (Hh _) rfl ?_
     (conv=>whnf);repeat' ((first| intro g| refine aq (by assumption) (by first| assumption| rfl| (simp only[V.ae,V.aj,Bool.and_self,Bool.true_and,Bool.and_true, *])) (hc) rfl ?_| refine av.mk _ (ei) ?_| refine st ?_| (first| refine b1 ?_ ?_| refine b2 ?_ ?_| refine Br.mk ?_ ?_) <;>intro hc| exact rfl) <;>conv=>whnf)
theorem MH (x:b5) (l:List bH): (l.any fun k=> !lW x k)= !l.all (lW x):=by
 induction l with
 | nil=>rfl
 | cons k l ih=>simp only[List.any_cons,List.all_cons,ih,Bool.not_and]
theorem MI {l:List bH} {sv:V} (x:b5) (hlen:l.length< 1000000) (htx: ∀k ∈ l,k.texts.length< 1000) (hs:td 4 (l.map bH.v) sv):Ev E 322 [x.v,sv] ⟨.bool (l.all (lW x)),[]⟩:=by
 have h:=AD hs (g:=347) (caps:=[.eptr x.v 0]) rfl (p:=fun k=> !lW x k) (by omega) (fun k hk=>P3 x k (htx k hk)) rfl
 rw[MH] at h
 simp only[b5.v] at h ⊢
 refine Ev.aG aaC (aaD _) rfl ?_
 rcases hs with rfl| ⟨h0,rfl⟩
 all_goals
  (conv=>whnf);repeat' ((first| intro g| refine av.mk _ (h) ?_| refine st ?_| (first| refine b1 ?_ ?_| refine b2 ?_ ?_| refine Br.mk ?_ ?_) <;>intro hc| exact rfl) <;>conv=>whnf)
  all_goals simp
end Go.AM
namespace Go.AM
def Ex.res (K:Int→Bd) (e:Ex):Ex:=if e.err=0 then e.cT K else e.norm
theorem MD (e:Ex) (r:Nat) (k:V→bR):bC false r [] e.norm.ov k=k e.norm.v:=by
 obtain⟨a,b,c,d,e',f,⟨h1,h2⟩ | ⟨ys,_,h1,h2⟩⟩:=e.Ko
 · rw[h1,h2];rfl
 · rw[h1,h2];rfl
theorem uQ: ∀ (k:Nat) (e:Ex),e.size≤k→k< 1000000→Ev E 319 [e.v,e.v] ⟨.bool true,[]⟩
 | 0,e,h,_=>by have:=e.size_pos;omega
 | k+1,.mk op var val nl l,h,hk=>by
   have cJ:Ex.bK l≤k:=by simp only[Ex.size] at h;omega
   have ih: ∀x ∈ l,Ev E 319 [x.v,x.v] ⟨.bool true,[]⟩:=fun x hx=>uQ k x (Nat.le_trans (Ex.eU hx) cJ) (by omega)
   have hlen:=Ex.length_le l
   have cm:aD E 319=[]:=rfl
   rw[Ex.bN]
   have acD: (val.t==val.t && (val.n==val.n && (val.b==val.b && (decide (val.s=val.s) &&true))))=true:=by simp
   cases l with
   | nil=>
     cases nl<;>simp only[List.map_nil,lv,cond_true,cond_false]
     all_goals
       refine Ev.aG Q7 (Q8 _) rfl ?_
       (conv=>whnf);repeat' ((first| intro g| refine st ?_| (first| refine b1 ?_ ?_| refine b2 ?_ ?_| refine Br.mk ?_ ?_) <;>intro hc| exact rfl) <;>conv=>whnf)
       rename_i ed
       refine bj.by (fun (i:Nat)=> ⟨[(2,.ptr 48 ed 0 0),(3,.ptr 64 g 0 0),(5,aO 0)],[(48,⟨ed,7,false,false,some [_]⟩),(64,⟨g,7,false,false,some [_]⟩)]⟩) (fun i=>i=0) (fun _=>0) 0 (by(refine⟨?_,?_⟩ <;>repeat' (first| exact True.intro| refine ai ?_| refine And.intro ?_ ?_))) rfl ?_
       rintro i rfl
       (conv=>whnf);repeat' ((first| intro g| refine st ?_| (first| refine b1 ?_ ?_| refine b2 ?_ ?_| refine Br.mk ?_ ?_) <;>intro hc| exact rfl) <;>conv=>whnf)
   | cons y ys=>
     have e1:lv nl ((y::ys).map Ex.v)= .lit 7 ((y::ys).map Ex.v):=rfl
     rw[e1]
     generalize hl:y::ys=l at*
     clear hl
     refine Ev.aG Q7 (Q8 _) rfl ?_
     (conv=>whnf);repeat' ((first| intro g| refine st ?_| (first| refine b1 ?_ ?_| refine b2 ?_ ?_| refine Br.mk ?_ ?_) <;>intro hc| exact rfl) <;>conv=>whnf)
     all_goals first| exact absurd acD (by assumption) | skip
     rename_i ed
     refine bj.by (fun (i:Nat)=> ⟨[(2,.ptr 48 ed 0 0),(3,.ptr 64 g 0 0),(5,aO i)],[(48,⟨ed,7,false,false,some [.agg [vi op,vi var,vi val.t,vi val.n,.bool val.b,.str val.s,.lit 7 (l.map Ex.v)]]⟩),(64,⟨g,7,false,false,some [.agg [vi op,vi var,vi val.t,vi val.n,.bool val.b,.str val.s,.lit 7 (l.map Ex.v)]]⟩)]⟩)
       (fun i=>i≤l.length) (fun i=>l.length - i) 0 (by(refine⟨?_,?_⟩ <;>repeat' (first| exact True.intro| refine ai ?_| refine And.intro ?_ ?_))) (by simp) ?_
     intro i hi
     by_cases bY:i<l.length
     · obtain⟨x,hx⟩: ∃x,l[i]? =some x:=⟨_,bp bY⟩
       have xD:=ih x (List.mem_of_getElem? hx)
       obtain⟨a,b,c,d,e',f,L,hv,hp⟩:=x.br
       rw[hv] at xD
       (conv=>whnf);repeat' ((first| refine aq cm (aQ hp hp) xD rfl ?_| intro g| refine bD.mk _ (aA hx hv rfl) ?_| refine st ?_| (first| refine b1 ?_ ?_| refine b2 ?_ ?_| refine Br.mk ?_ ?_) <;>intro hc| exact rfl) <;>conv=>whnf)
       exact bk.mk (i+1) (by first| omega| (dsimp only;omega)) (by first| omega| (dsimp only;omega)) (by(refine⟨?_,?_⟩ <;>repeat' (first| exact True.intro| refine ai ?_| refine And.intro ?_ ?_)))
     · have gP:i=l.length:=by omega
       subst gP
       (conv=>whnf);repeat' ((first| intro g| refine st ?_| (first| refine b1 ?_ ?_| refine b2 ?_ ?_| refine Br.mk ?_ ?_) <;>intro hc| exact rfl) <;>conv=>whnf)
end Go.AM
