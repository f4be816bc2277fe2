/-
  Texts of the proof: LbK.
-/
import Derived.Test.YtjkmpppkkhbjkaaGreatPa
import Derived.Test.YtjkmpppkkhbjkaaGreatTa
set_option maxRecDepth 20000
set_option linter.unusedSimpArgs false
set_option linter.unusedVariables false
set_option maxHeartbeats 4000000
namespace Go.AM
structure ig {α:Type} (b:α→α→Bool) (S post:List α) (x:α) (j:Nat) (L pre mid:List α):Prop where
 eq:L=pre++x:: (mid++post)
 hj:pre.length=j
 src:pre++mid=S
 up: ∀y ∈ mid,b x y=true
section
variable {α:Type} {b:α→α→Bool} {S L pre mid post:List α} {x:α} {j:Nat}
theorem ig.len (h:ig b S post x j L pre mid):L.length=S.length+1+post.length:=by
 rw[h.eq,←h.src];simp;omega
theorem ig.lej (h:ig b S post x j L pre mid):j≤S.length:=by
 rw[←h.src,←h.hj];simp
theorem ig.Pz (h:ig b S post x j L pre mid):L[j]? =some x:=by
 rw[h.eq,List.getElem?_append_right (by have:=h.hj;omega),h.hj];simp
theorem ig.PA {y:α} {j4:List α} (h:ig b S post x (j+1) L (j4++[y]) mid):L[j]? =some y:=by
 have:=h.hj
 simp at this
 rw[h.eq,List.append_assoc,List.getElem?_append_right (by omega),this];simp
theorem ig.snoc (h:ig b S post x (j+1) L pre mid): ∃j4 y,pre=j4++[y]:=by
 have:=h.hj
 rcases List.eq_nil_or_concat pre with rfl| ⟨l,c,rfl⟩
 · simp at this
 · exact⟨l,c,by simp⟩
theorem ig.step {y:α} {j4:List α} (h:ig b S post x (j+1) L (j4++[y]) mid) (hc:b x y=true):ig b S post x j ((L.set (j+1) y).set j x) j4 (y::mid) where
 eq:=by
  have hj:j4.length=j:=by have:=h.hj;simpa using this
  rw[h.eq]
  simp[List.set_append,hj]
 hj:=by have:=h.hj;simpa using this
 src:=by have:=h.src;simpa using this
 up:=fun z hz=>by
  rcases List.mem_cons.1 hz with rfl| hz
  · exact hc
  · exact h.up z hz
theorem ig.stop (h:ig b S post x j L pre mid) (hx: ∀y,pre.getLast?=some y→b x y=false):L=qa b x S++post:=by
 rw[←h.src,Ct b h.up hx,h.eq];simp
end
def M0 (a b:Place):Int:=J8 (nN b.weight a.weight) (nN a.id b.id)
theorem As (a b:Place):eC a b=decide (M0 a b< 0):=by
 unfold eC M0 J8 nN
 rw[Bool.eq_iff_iff]
 simp only[Bool.or_eq_true,Bool.and_eq_true,decide_eq_true_eq]
 repeat' split
 all_goals omega
theorem JE (a b:Place):Ev E 633 [.any,a.v,b.v] ⟨vi (M0 a b),[]⟩:=by
 refine Ev.aT Vd (Ve _) rfl ?_
 (conv=>whnf);repeat' ((first| intro g| refine ah.mk _ (ub _ _) ?_| refine ah.mk _ (Lu _ _) ?_| refine st ?_| (first| refine b1 ?_ ?_| refine b2 ?_ ?_| refine Br.mk ?_ ?_) <;>intro hc| exact rfl) <;>conv=>whnf)
theorem vt {α:Type} {f:α→V} {l:List α} {rest:List V} {i:Nat} {n:Int} {x:α} (h:l[i]? =some x) (hn:n=(i:Int)): (l.map f++rest)[n.toNat]? =some (f x):=by
 have hi:=(List.getElem?_eq_some_iff.1 h).1
 rw[List.getElem?_append_left (by subst hn;simpa using hi)]
 exact al h hn
theorem Hu {l0:List Place} {rest:List V} (eK:V.aq rest=true) (hlen:l0.length< 1000000):Ev E 655 [.msl 7 (l0.map Place.v++rest) 0 l0.length,vi 0,aC l0.length,.bfn 633 [.any]] ⟨.tuple [],[(0,(fh eC l0).map Place.v++rest)]⟩:=by
 refine Ev.aT Wr (Ws _) rfl ?_
 (conv=>whnf);repeat' ((first| intro g| refine st ?_| (first| refine b1 ?_ ?_| refine b2 ?_ ?_| refine Br.mk ?_ ?_) <;>intro hc| exact rfl) <;>conv=>whnf)
 refine aI.by (fun ((i,L):Nat×List Place)=> ⟨[(0,.sl 0 0 0 l0.length),(1,vi 0),(2,aC l0.length),(3,.bfn 633 [.any]),(8,aC (i+1))],[(0,⟨0,7,true,false,some (L.map Place.v++rest)⟩)]⟩)
   (fun p=>p.1≤l0.length∧p.2=fh eC (l0.take (p.1+1))++l0.drop (p.1+1)) (fun p=>l0.length - p.1) (0,l0) ?_ ?_ ?_
 · (refine⟨?_,?_⟩ <;>repeat' (first| exact True.intro| refine ai ?_| refine And.intro ?_ ?_))
 · refine⟨by simp,?_⟩
   cases l0 with
   | nil=>rfl
   | cons a l=>rfl
 rintro⟨i,L⟩ ⟨h1,h2⟩
 dsimp only at h1 h2
 have hl:L.length=l0.length:=by rw[h2];simp only[List.length_append,dt,List.length_take,List.length_drop];omega
 by_cases bp:i+1 <l0.length
 case neg=>
   rw[List.take_of_length_le (by omega),List.drop_eq_nil_of_le (by omega),List.append_nil] at h2
   rw[←h2]
   (conv=>whnf);repeat' ((first| ((exfalso;omega)) | intro g| refine eA.mk (by first| (exact⟨rfl,rfl,bn (Place.bP _) eK⟩) | fail) ?_| refine eA.mk (by first| ((and_intros<;>first| rfl| exact bn (Place.bP _) eK| omega| (simp only[List.length_append,List.length_map,dt];omega))) | fail) ?_| refine st ?_| (first| refine b1 ?_ ?_| refine b2 ?_ ?_| refine Br.mk ?_ ?_) <;>intro hc| exact rfl) <;>conv=>whnf)
 obtain⟨x,M1⟩: ∃x,l0[i+1]? =some x:=⟨_,aD bp⟩
 have FK:l0.drop (i+1)=x::l0.drop (i+2):=by
   rw[List.drop_eq_getElem_cons bp];rw[List.getElem?_eq_getElem bp] at M1;injection M1 with M1;rw[M1]
 have dX:fh eC (l0.take (i+1+1))=qa eC x (fh eC (l0.take (i+1))):=by rw[dM M1,ud]
 have hSl: (fh eC (l0.take (i+1))).length=i+1:=by rw[dt,List.length_take];omega
 have h0:ig eC (fh eC (l0.take (i+1))) (l0.drop (i+2)) x (i+1) L (fh eC (l0.take (i+1))) []:=⟨by rw[h2,FK];simp,hSl,by simp,by simp⟩
 obtain⟨post,Hv⟩: ∃p,p=l0.drop (i+2):=⟨_,rfl⟩
 rw[←Hv] at h0
 have Yf: ∀L':List Place,L'=qa eC x (fh eC (l0.take (i+1)))++post→L'=fh eC (l0.take (i+1+1))++l0.drop (i+1+1):=fun L' h=>by rw[dX,h,Hv]
 have EU:post.length+(i+2)=l0.length:=by rw[Hv,List.length_drop];omega
 generalize fh eC (l0.take (i+1))=S at*
 (conv=>whnf);repeat' ((first| ((exfalso;omega)) | intro g| refine eA.mk (by first| (exact⟨rfl,rfl,bn (Place.bP _) eK⟩) | fail) ?_| refine eA.mk (by first| ((and_intros<;>first| rfl| exact bn (Place.bP _) eK| omega| (simp only[List.length_append,List.length_map,dt];omega))) | fail) ?_| refine st ?_| (first| refine b1 ?_ ?_| refine b2 ?_ ?_| refine Br.mk ?_ ?_) <;>intro hc| exact rfl) <;>conv=>whnf)
 refine aI.by (fun ((j,L):Nat×List Place)=> ⟨[(0,.sl 0 0 0 l0.length),(1,vi 0),(2,aC l0.length),(3,.bfn 633 [.any]),(8,aC (i+1)),(9,aC j)],[(0,⟨0,7,true,false,some (L.map Place.v++rest)⟩)]⟩)
     (fun p=> ∃pre mid,ig eC S post x p.1 p.2 pre mid) (fun p=>p.1) (i+1,L) ?_ ⟨_,_,h0⟩ ?_
 · (refine⟨?_,?_⟩ <;>repeat' (first| exact True.intro| refine ai ?_| refine And.intro ?_ ?_))
 rintro⟨j,L'⟩ ⟨pre,mid,hs⟩
 dsimp only at hs
 have xQ:=hs.len
 have YM:=hs.lej
 have hx:=hs.Pz
 cases j with
 | zero=>
   have zK:pre=[]:=List.eq_nil_of_length_eq_zero hs.hj
   (conv=>whnf);repeat' ((first| intro g| refine st ?_| (first| refine b1 ?_ ?_| refine b2 ?_ ?_| refine Br.mk ?_ ?_) <;>intro hc| exact rfl) <;>conv=>whnf)
   refine aE.mk (i+1,L') (by dsimp only;omega) ⟨by dsimp only;omega,Yf _ (hs.stop (by rw[zK];simp))⟩ (by(refine⟨?_,?_⟩ <;>repeat' (first| exact True.intro| refine ai ?_| refine And.intro ?_ ?_)))
 | succ j=>
   obtain⟨j4,y,rfl⟩:=hs.snoc
   have hy:=hs.PA
   have DN:IntKind.i64.wrap (((j+1:Nat):Int) - 1)=(j:Int):=(wrap64 (by omega) (by omega)).trans (by omega)
   have hy2: ((L'.map Place.v++rest).set ((j+1:Nat):Int).toNat y.v)[(IntKind.i64.wrap (((j+1:Nat):Int) - 1)).toNat]? =some y.v:=by
     rw[DN,Int.toNat_natCast,Int.toNat_natCast,List.getElem?_set_ne (by omega)];exact vt hy rfl
   (conv=>whnf);repeat' ((first| intro g| refine aN.mk _ (vt hx rfl) ?_| refine aN.mk _ (vt hy DN) ?_| refine aN.mk _ (hy2) ?_| refine ah.mk _ (JE _ _) ?_| refine st ?_| (first| refine b1 ?_ ?_| refine b2 ?_ ?_| refine Br.mk ?_ ?_) <;>intro hc| exact rfl) <;>conv=>whnf)
   · refine aE.mk (j,(L'.set (j+1) y).set j x) (by dsimp only;omega) ⟨_,_,hs.step (by rw[As];exact decide_eq_true hc)⟩ ?_
     have e1:V.int .i64 (IntKind.i64.wrap (((j+1:Nat):Int) - 1))=aC j:=by rw[DN]
     have e2: (⟨0,7,true,false,some (((L'.map Place.v++rest).set ((j+1:Nat):Int).toNat y.v).set (IntKind.i64.wrap (((j+1:Nat):Int) - 1)).toNat x.v)⟩:Obj)=⟨0,7,true,false,some (((L'.set (j+1) y).set j x).map Place.v++rest)⟩:=by
      rw[DN,Int.toNat_natCast,Int.toNat_natCast,List.set_append_left _ _ (by simp;omega),List.set_append_left _ _ (by simp;omega),List.map_set,List.map_set]
     (refine⟨?_,?_⟩ <;>repeat' (first| exact True.intro| refine And.intro (e1) ?_| refine And.intro (e2) ?_| refine ai ?_| refine And.intro ?_ ?_))
   · refine aE.mk (i+1,L') (by dsimp only;omega) ⟨by dsimp only;omega,Yf _ (hs.stop (fun z hz=>by
      rw[List.getLast?_concat] at hz;injection hz with hz;subst hz
      rw[As];exact decide_eq_false hc))⟩ (by(refine⟨?_,?_⟩ <;>repeat' (first| exact True.intro| refine ai ?_| refine And.intro ?_ ?_)))
theorem JF {l0:List Place} {rest:List V} (eK:V.aq rest=true) (hlen:l0.length< 20):Ev E 642 [.msl 7 (l0.map Place.v++rest) 0 l0.length,aC l0.length,.bfn 633 [.any]] ⟨.tuple [],[(0,(fh eC l0).map Place.v++rest)]⟩:=by
 have hi:=Hu (l0:=l0) eK (by omega)
 have XI:=dt eC l0
 refine Ev.aT VN (VO _) rfl ?_
 (conv=>whnf);repeat' ((first| intro g| refine st ?_| (first| refine b1 ?_ ?_| refine b2 ?_ ?_| refine Br.mk ?_ ?_) <;>intro hc| exact rfl) <;>conv=>whnf)
 refine aI.by (fun _:Unit=> ⟨[(0,.sl 0 0 0 l0.length),(1,aC l0.length),(2,.bfn 633 [.any]),(6,vi 20),(7,vi 0),(8,vi 20)],[(0,⟨0,7,true,false,some (l0.map Place.v++rest)⟩)]⟩) (fun _=>True) (fun _=>0) () (by(refine⟨?_,?_⟩ <;>repeat' (first| exact True.intro| refine ai ?_| refine And.intro ?_ ?_))) trivial ?_
 rintro _ _
 (conv=>whnf);repeat' ((first| ((exfalso;omega)) | intro g| refine eA.mk (by first| (exact⟨rfl,rfl,bn (Place.bP _) eK⟩) | fail) ?_| refine eA.mk (by first| ((and_intros<;>first| rfl| exact bn (Place.bP _) eK| omega| (simp only[List.length_append,List.length_map,dt];omega))) | fail) ?_| refine ah.mk _ (hi) ?_| refine st ?_| (first| refine b1 ?_ ?_| refine b2 ?_ ?_| refine Br.mk ?_ ?_) <;>intro hc| exact rfl) <;>conv=>whnf)
 refine aI.by (fun _:Unit=> ⟨[(0,.sl 0 0 0 l0.length),(1,aC l0.length),(2,.bfn 633 [.any]),(6,vi 20)],[(0,⟨0,7,true,false,some ((fh eC l0).map Place.v++rest)⟩)]⟩) (fun _=>True) (fun _=>0) () (by(refine⟨?_,?_⟩ <;>repeat' (first| exact True.intro| refine ai ?_| refine And.intro ?_ ?_))) trivial ?_
 rintro _ _
 (conv=>whnf);repeat' ((first| ((exfalso;omega)) | intro g| refine eA.mk (by first| (exact⟨rfl,rfl,bn (Place.bP _) eK⟩) | fail) ?_| refine eA.mk (by first| ((and_intros<;>first| rfl| exact bn (Place.bP _) eK| omega| (simp only[List.length_append,List.length_map,dt];omega))) | fail) ?_| refine st ?_| (first| refine b1 ?_ ?_| refine b2 ?_ ?_| refine Br.mk ?_ ?_) <;>intro hc| exact rfl) <;>conv=>whnf)
theorem Yg {l0:List Place} {rest:List V} (eK:V.aq rest=true) (hlen:l0.length< 20):Ev E 632 [.msl 7 (l0.map Place.v++rest) 0 l0.length,.bfn 633 [.any]] ⟨.tuple [],[(0,(fh eC l0).map Place.v++rest)]⟩:=by
 have hi:=JF eK hlen
 have XI:=dt eC l0
 refine Ev.aT Vb (Vc _) rfl ?_
 (conv=>whnf);repeat' ((first| ((exfalso;omega)) | intro g| refine eA.mk (by first| (exact⟨rfl,rfl,bn (Place.bP _) eK⟩) | fail) ?_| refine eA.mk (by first| ((and_intros<;>first| rfl| exact bn (Place.bP _) eK| omega| (simp only[List.length_append,List.length_map,dt];omega))) | fail) ?_| refine ah.mk _ (hi) ?_| refine st ?_| (first| refine b1 ?_ ?_| refine b2 ?_ ?_| refine Br.mk ?_ ?_) <;>intro hc| exact rfl) <;>conv=>whnf)
theorem xc (p:Place):Ev E 631 [p.v] ⟨.bool (decide (p.name=[])),[]⟩:=by
 refine Ev.aT U9 (Va _) rfl ?_
 (conv=>whnf);repeat' ((first| intro g| refine st ?_| (first| refine b1 ?_ ?_| refine b2 ?_ ?_| refine Br.mk ?_ ?_) <;>intro hc| exact rfl) <;>conv=>whnf)
 all_goals trace_state
end Go.AM
