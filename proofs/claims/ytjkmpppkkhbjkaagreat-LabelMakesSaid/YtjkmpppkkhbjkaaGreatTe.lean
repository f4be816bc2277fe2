/-
  Texts of the proof: LtK, LtM.
-/
import Derived.Test.YtjkmpppkkhbjkaaGreatTd
import Derived.Test.YtjkmpppkkhbjkaaGreatMa
import Derived.Test.YtjkmpppkkhbjkaaGreatBase
set_option maxRecDepth 20000
set_option linter.unusedSimpArgs false
set_option linter.unusedVariables false
set_option maxHeartbeats 4000000
namespace Go.AM
theorem qI {l:List Int} (hl:l.length< 1000000) (n:Int): ∃ (l':List Int) (v:V),l'.length≤l.length+1∧Ev E 162 [.lit 1 (l.map vi),vi n] ⟨v,[]⟩∧Yu v (.lit 1 (l'.map vi)):=by
 obtain⟨l',h1,h2| h2⟩:=Gx hl n
 · exact⟨l',_,h1,h2,fun _ _=>rfl⟩
 · exact⟨l',_,h1,h2,fun _ _=>rfl⟩
theorem yI {es:List Edge} (hl:es.length< 1000) (a b:Int): ∃l:List Int,l.length< 1000∧Ev E 504 [.lit 4 (es.map Edge.v),vi a,vi b] ⟨.lit 1 (l.map vi),[]⟩:=by
 suffices hh: ∃res,Ev E 504 [.lit 4 (es.map Edge.v),vi a,vi b] res∧ ∃l:List Int,l.length< 1000∧res=⟨.lit 1 (l.map vi),[]⟩ by
  obtain⟨_,h1,l,h2,rfl⟩:=hh
  exact⟨l,h2,h1⟩
 refine Ev.bz WI (WJ _) rfl ?_
 (conv=>whnf);repeat' ((first| intro g| refine st ?_| (first| refine b1 ?_ ?_| refine b2 ?_ ?_| refine Br.mk ?_ ?_) <;>intro hc| exact rfl) <;>conv=>whnf)
 refine aI.by (fun ((i,L):Nat×List Int)=> ⟨[(0,.lit 4 (es.map Edge.v)),(1,vi a),(2,vi b),(7,.lit 1 (L.map vi)),(8,aC i)],[]⟩) (fun (i,L)=>i≤es.length∧L.length≤i) (fun (i,_)=>es.length - i) (0,[]) (by(refine⟨?_,?_⟩ <;>repeat' (first| exact True.intro| refine ai ?_| refine And.intro ?_ ?_))) ⟨by simp,by simp⟩ ?_
 rintro⟨i,L⟩ ⟨hi,hL⟩
 try dsimp only at hi hL
 by_cases bp:i<es.length
 case neg=>
  (conv=>whnf);repeat' ((first| intro g| refine st ?_| (first| refine b1 ?_ ?_| refine b2 ?_ ?_| refine Br.mk ?_ ?_) <;>intro hc| exact rfl) <;>conv=>whnf)
  exact⟨L,by omega,rfl⟩
 obtain⟨e,he⟩: ∃e,es[i]? =some e:=⟨_,aD bp⟩
 obtain⟨L',v,h1,h2,h3⟩:=qI (l:=L) (by omega) e.id
 have hm:c6 E 162=[]:=rfl
 have hp:V.aq [.lit 1 (L.map vi),vi e.id]=true:=rfl
 (conv=>whnf);repeat' ((first| refine er hm hp h2 h3 ?_| intro g| refine aN.mk _ (al he rfl) ?_| refine st ?_| (first| refine b1 ?_ ?_| refine b2 ?_ ?_| refine Br.mk ?_ ?_) <;>intro hc| exact rfl) <;>conv=>whnf)
 all_goals (refine aE.mk (i+1,_) ?_ ?_ (by(refine⟨?_,?_⟩ <;>repeat' (first| exact True.intro| refine ai ?_| refine And.intro ?_ ?_))) <;>dsimp only<;>omega)
theorem HZ {l:List Pt} (hl:l.length< 1000): ∃n:Int,Ev E 513 [kh l] ⟨vi n,[]⟩:=by
 refine cj (g:=vi) (Ev.bz WW (WY _) rfl ?_)
 (conv=>whnf);repeat' ((first| intro g| refine st ?_| (first| refine b1 ?_ ?_| refine b2 ?_ ?_| refine Br.mk ?_ ?_) <;>intro hc| exact rfl) <;>conv=>whnf)
 refine aI.by (fun ((k,s):Nat×Int)=> ⟨[(0,kh l),(3,vi s),(4,aC k)],[]⟩) (fun (k,_)=>k≤l.length) (fun (k,_)=>l.length - k) (0,0) (by(refine⟨?_,?_⟩ <;>repeat' (first| exact True.intro| refine ai ?_| refine And.intro ?_ ?_))) (by simp) ?_
 rintro⟨k,s⟩ hk
 try dsimp only at hk
 have hw:IntKind.i64.wrap ((k:Int)+1)=((k+1:Nat):Int):=(wrap64 (by omega) (by omega)).trans (by omega)
 by_cases bp:k+1 <l.length
 · obtain⟨p,hp⟩: ∃p,l[k]? =some p:=⟨_,aD (by omega)⟩
   obtain⟨q,hq⟩: ∃q,l[k+1]? =some q:=⟨_,aD bp⟩
   have s1:=nv q p
   have s2:=xG ⟨c9 (q.x - p.x),c9 (q.y - p.y)⟩ ⟨c9 (q.x - p.x),c9 (q.y - p.y)⟩
   have s3:Ev E 127 [vi _] ⟨vi _,[]⟩:=uc (Cg (c9 (c9 (q.x - p.x)*c9 (q.x - p.x))+c9 (c9 (q.y - p.y)*c9 (q.y - p.y)))).2
   (conv=>whnf);repeat' ((first| ((exfalso;omega)) | intro g| refine aN.mk _ (al hp rfl) ?_| refine aN.mk _ (al hq hw) ?_| refine ah.mk _ (s1) ?_| refine ah.mk _ (s2) ?_| refine ah.mk _ (s3) ?_| refine st ?_| (first| refine b1 ?_ ?_| refine b2 ?_ ?_| refine Br.mk ?_ ?_) <;>intro hc| exact rfl) <;>conv=>whnf)
   refine aE.mk (k+1,_) ?_ ?_ (by(refine⟨?_,?_⟩ <;>repeat' (first| exact True.intro| refine ai ?_| refine And.intro ?_ ?_))) <;>dsimp only<;>omega
 · (conv=>whnf);repeat' ((first| ((exfalso;omega)) | intro g| refine st ?_| (first| refine b1 ?_ ?_| refine b2 ?_ ?_| refine Br.mk ?_ ?_) <;>intro hc| exact rfl) <;>conv=>whnf)
   exact⟨_,rfl⟩
theorem sK {m:bk} (h:m.Sm) (a b:Int): ∃n:Int,Ev E 509 [m.v,vi a,vi b] ⟨vi n,[]⟩:=by
 have hl:=h.e
 refine cj (g:=vi) (Ev.bz WB (WC _) rfl ?_)
 (conv=>whnf);repeat' ((first| intro g| refine st ?_| (first| refine b1 ?_ ?_| refine b2 ?_ ?_| refine Br.mk ?_ ?_) <;>intro hc| exact rfl) <;>conv=>whnf)
 refine aI.by (fun ((k,s):Nat×Int)=> ⟨[(1,vi a),(2,vi b),(3,.ptr 64 g 0 0),(7,vi s),(8,aC k)],[(64,⟨g,4,false,false,some [m.v]⟩)]⟩) (fun (k,_)=>k≤m.aU.length) (fun (k,_)=>m.aU.length - k) (0,0) (by(refine⟨?_,?_⟩ <;>repeat' (first| exact True.intro| refine ai ?_| refine And.intro ?_ ?_))) (by simp) ?_
 rintro⟨k,s⟩ hk
 try dsimp only at hk
 by_cases bp:k<m.aU.length
 · obtain⟨e,he⟩: ∃p,m.aU[k]? =some p:=⟨_,aD bp⟩
   obtain⟨n,hn⟩:=HZ (h.el e (List.mem_of_getElem? he))
   (conv=>whnf);repeat' ((first| intro g| refine aN.mk _ (al he rfl) ?_| refine ah.mk _ (hn) ?_| refine st ?_| (first| refine b1 ?_ ?_| refine b2 ?_ ?_| refine Br.mk ?_ ?_) <;>intro hc| exact rfl) <;>conv=>whnf)
   all_goals (refine aE.mk (k+1,_) ?_ ?_ (by(refine⟨?_,?_⟩ <;>repeat' (first| exact True.intro| refine ai ?_| refine And.intro ?_ ?_))) <;>dsimp only<;>omega)
 · (conv=>whnf);repeat' ((first| intro g| refine st ?_| (first| refine b1 ?_ ?_| refine b2 ?_ ?_| refine Br.mk ?_ ?_) <;>intro hc| exact rfl) <;>conv=>whnf)
   exact⟨_,rfl⟩
theorem pd {m:bk} (h:m.Sm) (a b:Int): ∃c:Int,Ev E 488 [m.v,vi a,vi b] ⟨vi c,[]⟩:=by
 obtain⟨F,hF⟩:=nL h
 obtain⟨l,hl,hb⟩:=yI h.e a b
 have f1:=hF a
 have f2:=hF b
 generalize F a=x at f1
 generalize F b=y at f2
 refine cj (g:=vi) (Ev.bz Wh (Wi _) rfl ?_)
 (conv=>whnf);repeat' ((first| intro g| refine ah.mk _ (f1) ?_| refine ah.mk _ (f2) ?_| refine ah.mk _ (hb) ?_| refine st ?_| (first| refine b1 ?_ ?_| refine b2 ?_ ?_| refine Br.mk ?_ ?_) <;>intro hc| exact rfl) <;>conv=>whnf)
 all_goals exact⟨_,rfl⟩
theorem sL {m:bk} (h:m.Sm) (a b:Int): ∃c:Int,Ev E 490 [m.v,vi a,vi b] ⟨vi c,[]⟩:=by
 obtain⟨F,hF⟩:=nL h
 have f1:=hF a
 generalize F a=x at f1
 refine cj (g:=vi) (Ev.bz WD (WE _) rfl ?_)
 (conv=>whnf);repeat' ((first| intro g| refine ah.mk _ (f1) ?_| refine st ?_| (first| refine b1 ?_ ?_| refine b2 ?_ ?_| refine Br.mk ?_ ?_) <;>intro hc| exact rfl) <;>conv=>whnf)
 all_goals exact⟨_,rfl⟩
end Go.AM
set_option maxHeartbeats 4000000
namespace Go.AM
theorem EK {m:bk} (h:m.Sm) {d:Int} {ids:List Int} {i k fc g7:Nat} {l:List Event} {vQ:Int} {some_:Bool} {Q:aX→SS→Prop} (hi:i<ids.length) (hk:k<ids.length) (hl:ids.length< 1000)
  (hQ: ∀ (T:List (Nat×V)) (O:List (Nat×Obj)) (b:Int) (s:Bool),SS.Sub ⟨[(1,vi d),(2,.ptr 48 fc 0 0),(5,.lit 1 (ids.map vi)),(7,.sl 129 g7 0 l.length),(8,aC k),(11,vi b),(12,.bool s),(13,aC (i+1))],[(48,⟨fc,4,false,false,some [m.v]⟩),(129,⟨g7,5,true,false,some (l.map Event.v)⟩)]⟩ ⟨T,O⟩→Q .normal ⟨T,O⟩):
  lR E IF ⟨[(1,vi d),(2,.ptr 48 fc 0 0),(5,.lit 1 (ids.map vi)),(7,.sl 129 g7 0 l.length),(8,aC k),(11,vi vQ),(12,.bool some_),(13,aC i)],[(48,⟨fc,4,false,false,some [m.v]⟩),(129,⟨g7,5,true,false,some (l.map Event.v)⟩)]⟩ Q:=by
 obtain⟨x,hx⟩: ∃x,ids[i]? =some x:=⟨_,aD hi⟩
 obtain⟨y,hy⟩: ∃x,ids[k]? =some x:=⟨_,aD hk⟩
 obtain⟨c,h1⟩:=pd h y x
 obtain⟨n1,h2⟩:=sK h y x
 obtain⟨n2,h3⟩:=sK h y vQ
 (conv=>whnf);repeat' ((first| intro g| refine aN.mk _ (al hx rfl) ?_| refine aN.mk _ (al hy rfl) ?_| refine ah.mk _ (h1) ?_| refine ah.mk _ (h2) ?_| refine ah.mk _ (h3) ?_| refine st ?_| (first| refine b1 ?_ ?_| refine b2 ?_ ?_| refine Br.mk ?_ ?_) <;>intro hc| exact rfl) <;>conv=>whnf)
 all_goals exact hQ _ _ _ _ (by(refine⟨?_,?_⟩ <;>repeat' (first| exact True.intro| refine ai ?_| refine And.intro ?_ ?_)))
theorem Nf {m:bk} (h:m.Sm) (d:Int): ∃l:List Event,l.length≤1000∧Ev E 493 [m.v,vi d] ⟨.own 5 (l.map Event.v),[]⟩:=by
 suffices hh: ∃res,Ev E 493 [m.v,vi d] res∧ ∃l:List Event,l.length≤1000∧res=⟨.own 5 (l.map Event.v),[]⟩ by
   obtain⟨_,h1,l,h2,rfl⟩:=hh
   exact⟨l,h2,h1⟩
 have hlen:=h.f
 obtain⟨F,hF⟩:=nL h
 refine Ev.bz VZ (V0 _) rfl ?_
 (conv=>whnf);repeat' ((first| intro g| refine st ?_| (first| refine b1 ?_ ?_| refine b2 ?_ ?_| refine Br.mk ?_ ?_) <;>intro hc| exact rfl) <;>conv=>whnf)
 rename_i fc
 refine aI.by (fun ((i,L):Nat×List Int)=> ⟨[(1,vi d),(2,.ptr 48 fc 0 0),(5,.lit 1 (L.map vi)),(6,aC i)],[(48,⟨fc,4,false,false,some [m.v]⟩)]⟩) (fun (i,L)=>i≤m.ba.length∧L.length≤i) (fun (i,_)=>m.ba.length - i) (0,[]) (by(refine⟨?_,?_⟩ <;>repeat' (first| exact True.intro| refine ai ?_| refine And.intro ?_ ?_))) ⟨by simp,by simp⟩ ?_
 rintro⟨i,L⟩ ⟨hi,hL⟩
 try dsimp only at hi hL
 by_cases bp:i<m.ba.length
 · obtain⟨f,hf⟩: ∃x,m.ba[i]? =some x:=⟨_,aD bp⟩
   obtain⟨L',v,h1,h2,h3⟩:=qI (l:=L) (by omega) f.id
   have hm:c6 E 162=[]:=rfl
   have hp:V.aq [.lit 1 (L.map vi),vi f.id]=true:=rfl
   (conv=>whnf);repeat' ((first| refine er hm hp h2 h3 ?_| intro g| refine aN.mk _ (al hf rfl) ?_| refine st ?_| (first| refine b1 ?_ ?_| refine b2 ?_ ?_| refine Br.mk ?_ ?_) <;>intro hc| exact rfl) <;>conv=>whnf)
   exact aE.mk (i+1,L') (by first| omega| (dsimp only;omega)) ⟨by omega,by omega⟩ (by(refine⟨?_,?_⟩ <;>repeat' (first| exact True.intro| refine ai ?_| refine And.intro ?_ ?_)))
 (conv=>whnf);repeat' ((first| intro g| refine st ?_| (first| refine b1 ?_ ?_| refine b2 ?_ ?_| refine Br.mk ?_ ?_) <;>intro hc| exact rfl) <;>conv=>whnf)
 obtain⟨n,hn⟩: ∃n,L.length=n:=⟨_,rfl⟩
 have hn9:n< 1000:=by omega
 refine aI.by (fun ((k,l,g7):Nat×List Event×Nat)=> ⟨[(1,vi d),(2,.ptr 48 fc 0 0),(5,.lit 1 (L.map vi)),(7,.sl 129 g7 0 l.length),(8,aC k)],[(48,⟨fc,4,false,false,some [m.v]⟩),(129,⟨g7,5,true,false,some (l.map Event.v)⟩)]⟩) (fun (k,l,_)=>k≤n∧l.length≤k) (fun (k,_)=>n - k) (0,[],g) (by(refine⟨?_,?_⟩ <;>repeat' (first| exact True.intro| refine ai ?_| refine And.intro ?_ ?_))) ⟨by simp,by simp⟩ ?_
 clear hL hi bp
 rintro⟨k,l,g7⟩ ⟨hk,hl⟩
 try dsimp only at hk hl
 by_cases bp:k<n
 case neg=>
   (conv=>whnf);repeat' ((first| intro g| refine st ?_| (first| refine b1 ?_ ?_| refine b2 ?_ ?_| refine Br.mk ?_ ?_) <;>intro hc| exact rfl) <;>conv=>whnf)
   exact⟨l,by omega,rfl⟩
 obtain⟨y,hy⟩: ∃x,L[k]? =some x:=⟨_,aD (by omega)⟩
 have f1:=hF y
 generalize F y=f at f1
 (conv=>whnf);repeat' ((first| ((exfalso;omega)) | intro g| refine aN.mk _ (al hy rfl) ?_| refine ah.mk _ (f1) ?_| refine st ?_| (first| refine b1 ?_ ?_| refine b2 ?_ ?_| refine Br.mk ?_ ?_) <;>intro hc| exact rfl) <;>conv=>whnf)
 · exact aE.mk (k+1,l,g7) (by first| omega| (dsimp only;omega)) ⟨by omega,by omega⟩ (by(refine⟨?_,?_⟩ <;>repeat' (first| exact True.intro| refine ai ?_| refine And.intro ?_ ?_)))
 · exact aE.mk (k+1,l,g7) (by first| omega| (dsimp only;omega)) ⟨by omega,by omega⟩ (by(refine⟨?_,?_⟩ <;>repeat' (first| exact True.intro| refine ai ?_| refine And.intro ?_ ?_)))
 refine aI.by (fun ((i,b,s):Nat×Int×Bool)=> ⟨[(1,vi d),(2,.ptr 48 fc 0 0),(5,.lit 1 (L.map vi)),(7,.sl 129 g7 0 l.length),(8,aC k),(11,vi b),(12,.bool s),(13,aC i)],[(48,⟨fc,4,false,false,some [m.v]⟩),(129,⟨g7,5,true,false,some (l.map Event.v)⟩)]⟩) (fun (i,_)=>i≤n) (fun (i,_)=>n - i) (0,0,false) (by(refine⟨?_,?_⟩ <;>repeat' (first| exact True.intro| refine ai ?_| refine And.intro ?_ ?_))) (by simp) ?_
 rintro⟨i,b,s⟩ hi
 try dsimp only at hi
 by_cases Cx:i<n
 · exact EK h (by omega) (by omega) (by omega) (fun T O b s hs=>aE.mk (i+1,b,s) (by dsimp only;omega) (by dsimp only;omega) hs)
 obtain⟨q,hq⟩:=sL h y b
 cases s with
 | false=>
   (conv=>whnf);repeat' ((first| intro g| refine st ?_| (first| refine b1 ?_ ?_| refine b2 ?_ ?_| refine Br.mk ?_ ?_) <;>intro hc| exact rfl) <;>conv=>whnf)
   exact aE.mk (k+1,l,g7) (by first| omega| (dsimp only;omega)) ⟨by omega,by omega⟩ (by(refine⟨?_,?_⟩ <;>repeat' (first| exact True.intro| refine ai ?_| refine And.intro ?_ ?_)))
 | true=>
   (conv=>whnf);repeat' ((first| ((exfalso;omega)) | intro g| refine aN.mk _ (al hy rfl) ?_| refine ah.mk _ (hq) ?_| refine st ?_| (first| refine b1 ?_ ?_| refine b2 ?_ ?_| refine Br.mk ?_ ?_) <;>intro hc| exact rfl) <;>conv=>whnf)
   exact aE.mk (k+1,l++[⟨2,_,y,b,0⟩],g) (by first| omega| (dsimp only;omega)) ⟨by omega,by simp;omega⟩ (by(refine⟨?_,?_⟩ <;>repeat' (first| exact True.intro| refine ai ?_| refine And.intro ?_ ?_)))
end Go.AM
