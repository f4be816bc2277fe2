/-
  Texts of the proof, joined by program: QaR, QaE. Own work.
-/
import Derived.Test.YtgkdgapmmkkcaaaGreatXa
set_option linter.unusedSimpArgs false
set_option linter.unusedVariables false
set_option maxRecDepth 20000
namespace Go.AM
set_option maxHeartbeats 4000000 in
theorem LW {A B:List En} {L:List V} {x:En} {k qD g8 ga gb gc gd ge gf:Nat} {Q:aY→SS→Prop} (hx:A[k]? =some x) (hk:k<A.length) (LX:A.length< 1000000) (hl:B.length=k)
   (hQ: ∀T' O' UX UY UZ U0 U1 U2,SS.Sub ⟨[(7,.sl 129 qD 0 3),(15,.sl 257 UX 0 (B++[x]).length),(16,.sl 273 UY 0 (B++[x]).length),(17,.sl 289 UZ 0 (B++[x]).length),(18,.sl 305 U0 0 (B++[x]).length),(19,.sl 321 U1 0 (B++[x]).length),(20,.sl 337 U2 0 (B++[x]).length),(120,.sl 145 g8 0 A.length),(121,aT A.length),(122,aT (k+1))],
     [(129,⟨qD,4,true,false,some L⟩),(145,⟨g8,9,true,false,some (A.map En.v)⟩),(257,⟨UX,1,true,false,some (((B++[x]).map En.kind).map vi)⟩),(273,⟨UY,1,true,false,some (((B++[x]).map En.weight).map vi)⟩),(289,⟨UZ,1,true,false,some (((B++[x]).map En.level).map vi)⟩),(305,⟨U0,1,true,false,some (((B++[x]).map fun x=>zt x.cZ).map vi)⟩),(321,⟨U1,1,true,false,some (((B++[x]).map En.cls).map V.str)⟩),(337,⟨U2,1,true,false,some (((B++[x]).map En.name).map V.str)⟩)]⟩ ⟨T',O'⟩→Q .normal ⟨T',O'⟩):
   oE E zF ⟨[(7,.sl 129 qD 0 3),(15,.sl 257 ga 0 B.length),(16,.sl 273 gb 0 B.length),(17,.sl 289 gc 0 B.length),(18,.sl 305 gd 0 B.length),(19,.sl 321 ge 0 B.length),(20,.sl 337 gf 0 B.length),(120,.sl 145 g8 0 A.length),(121,aT A.length),(122,aT k)],
     [(129,⟨qD,4,true,false,some L⟩),(145,⟨g8,9,true,false,some (A.map En.v)⟩),(257,⟨ga,1,true,false,some ((B.map En.kind).map vi)⟩),(273,⟨gb,1,true,false,some ((B.map En.weight).map vi)⟩),(289,⟨gc,1,true,false,some ((B.map En.level).map vi)⟩),(305,⟨gd,1,true,false,some ((B.map fun x=>zt x.cZ).map vi)⟩),(321,⟨ge,1,true,false,some ((B.map En.cls).map V.str)⟩),(337,⟨gf,1,true,false,some ((B.map En.name).map V.str)⟩)]⟩ Q:=by
 obtain⟨kd,cl,nm,w,lv,st⟩:=x
 cases st
 · (conv=>whnf);repeat' ((first| intro g| refine aL.mk _ (au hx rfl) ?_| refine st ?_| (first| refine b1 ?_ ?_| refine b2 ?_ ?_| refine Br.mk ?_ ?_) <;>intro hc| exact rfl) <;>conv=>whnf)
   exact hQ _ _ _ _ _ _ _ _ (by(refine⟨?_,?_⟩ <;>repeat' (first| exact True.intro| refine ai ?_| refine And.intro ?_ ?_)))
 · (conv=>whnf);repeat' ((first| intro g| refine aL.mk _ (au hx rfl) ?_| refine st ?_| (first| refine b1 ?_ ?_| refine b2 ?_ ?_| refine Br.mk ?_ ?_) <;>intro hc| exact rfl) <;>conv=>whnf)
   exact hQ _ _ _ _ _ _ _ _ (by(refine⟨?_,?_⟩ <;>repeat' (first| exact True.intro| refine ai ?_| refine And.intro ?_ ?_)))
end Go.AM
set_option maxRecDepth 20000
namespace Go.AM
set_option maxHeartbeats 4000000 in
theorem LM {m:br} (v:Vw) (h1:m.bp.length< 10000) (h2:m.ways.length< 10000) (h3:m.aW.length< 10000) (hv:zm v):Ev E 447 [m.v,v.v] ⟨.own 4 ((if rN m=[] then ie v else vc (rN m) v).map Kn.v),[]⟩:=by
 obtain⟨⟨a1,a2,a3,a4⟩,a5,a6,a7,a8⟩:=hv
 have hq:=DR v.ux v.uy
 have hz:=BR (n:=Hc v.ux v.uy) (by omega) (by omega)
 refine Ev.cY Gs (Gt _) rfl ?_
 (conv=>whnf);repeat' ((first| intro g| refine ag.mk _ (hq) ?_| refine ag.mk _ (hz) ?_| refine ag.mk _ (LV _ _) ?_| refine st ?_| (first| refine b1 ?_ ?_| refine b2 ?_ ?_| refine Br.mk ?_ ?_) <;>intro hc| exact rfl) <;>conv=>whnf)
 rename_i sI sJ _ _ _ _ qD
 refine ba.by (fun ((k,A,g):Nat×List En×Nat)=> ⟨[(2,.ptr 48 sI 0 0),(3,.ptr 64 sJ 0 0),(7,.sl 129 qD 0 3),(8,.sl 145 g 0 A.length),(78,.lit 5 (m.bp.map aK.v)),(79,aT m.bp.length),(80,aT k)],
    [(48,⟨sI,4,false,false,some [m.v]⟩),(64,⟨sJ,7,false,false,some [v.v]⟩),(129,⟨qD,4,true,false,some ((ie v).map Kn.v)⟩),(145,⟨g,9,true,false,some (A.map En.v)⟩)]⟩)
   (fun (k,A,_)=>k≤m.bp.length∧A=(m.bp.map DQ).take k∧A.length≤0+k) (fun (k,_)=>m.bp.length - k) (0,[],g) (by(refine⟨?_,?_⟩ <;>repeat' (first| exact True.intro| refine ai ?_| refine And.intro ?_ ?_))) ⟨by simp,by simp,by simp⟩ ?_
 skip
 rintro⟨k,A,g⟩ ⟨hk,hA,hl⟩
 try dsimp only at hk hA hl
 by_cases bA:k<m.bp.length
 · obtain⟨f,hf⟩: ∃f,m.bp[k]? =some f:=⟨_,aJ bA⟩
   have he:=Ub f
   (conv=>whnf);repeat' ((first| intro g| refine aL.mk _ (au hf rfl) ?_| refine ag.mk _ (he) ?_| refine st ?_| (first| refine b1 ?_ ?_| refine b2 ?_ ?_| refine Br.mk ?_ ?_) <;>intro hc| exact rfl) <;>conv=>whnf)
   exact bI.mk (k+1,A++[DQ f],g) (by first| omega| (dsimp only;omega)) ⟨(by first| omega| (dsimp only;omega)),by rw[tk hf,hA],by simp;omega⟩ (by(refine⟨?_,?_⟩ <;>repeat' (first| exact True.intro| refine ai ?_| refine And.intro ?_ ?_)))
 obtain rfl:k=m.bp.length:=by omega
 rw[List.take_of_length_le (by simp)] at hA
 (conv=>whnf);repeat' ((first| intro g| refine st ?_| (first| refine b1 ?_ ?_| refine b2 ?_ ?_| refine Br.mk ?_ ?_) <;>intro hc| exact rfl) <;>conv=>whnf)
 refine ba.by (fun ((k,A,g):Nat×List En×Nat)=> ⟨[(2,.ptr 48 sI 0 0),(3,.ptr 64 sJ 0 0),(7,.sl 129 qD 0 3),(8,.sl 145 g 0 A.length),(91,.lit 8 (m.ways.map Way.v)),(92,aT m.ways.length),(93,aT k)],
    [(48,⟨sI,4,false,false,some [m.v]⟩),(64,⟨sJ,7,false,false,some [v.v]⟩),(129,⟨qD,4,true,false,some ((ie v).map Kn.v)⟩),(145,⟨g,9,true,false,some (A.map En.v)⟩)]⟩)
   (fun (k,A,_)=>k≤m.ways.length∧A=m.bp.map DQ++(m.ways.map Ge).take k∧A.length≤10000+k) (fun (k,_)=>m.ways.length - k) (0,A,g) (by(refine⟨?_,?_⟩ <;>repeat' (first| exact True.intro| refine ai ?_| refine And.intro ?_ ?_))) ⟨by simp,by simp[hA],by(first| omega| (dsimp only;omega))⟩ ?_
 clear hA hl A g
 rintro⟨k,A,g⟩ ⟨hk,hA,hl⟩
 try dsimp only at hk hA hl
 by_cases bA:k<m.ways.length
 · obtain⟨f,hf⟩: ∃f,m.ways[k]? =some f:=⟨_,aJ bA⟩
   have he:=Uc f
   (conv=>whnf);repeat' ((first| intro g| refine aL.mk _ (au hf rfl) ?_| refine ag.mk _ (he) ?_| refine st ?_| (first| refine b1 ?_ ?_| refine b2 ?_ ?_| refine Br.mk ?_ ?_) <;>intro hc| exact rfl) <;>conv=>whnf)
   exact bI.mk (k+1,A++[Ge f],g) (by first| omega| (dsimp only;omega)) ⟨(by first| omega| (dsimp only;omega)),by rw[tk hf,hA];simp,by simp;omega⟩ (by(refine⟨?_,?_⟩ <;>repeat' (first| exact True.intro| refine ai ?_| refine And.intro ?_ ?_)))
 obtain rfl:k=m.ways.length:=by omega
 rw[List.take_of_length_le (by simp)] at hA
 (conv=>whnf);repeat' ((first| intro g| refine st ?_| (first| refine b1 ?_ ?_| refine b2 ?_ ?_| refine Br.mk ?_ ?_) <;>intro hc| exact rfl) <;>conv=>whnf)
 refine ba.by (fun ((k,A,g):Nat×List En×Nat)=> ⟨[(2,.ptr 48 sI 0 0),(3,.ptr 64 sJ 0 0),(7,.sl 129 qD 0 3),(8,.sl 145 g 0 A.length),(104,.lit 7 (m.aW.map Place.v)),(105,aT m.aW.length),(106,aT k)],
    [(48,⟨sI,4,false,false,some [m.v]⟩),(64,⟨sJ,7,false,false,some [v.v]⟩),(129,⟨qD,4,true,false,some ((ie v).map Kn.v)⟩),(145,⟨g,9,true,false,some (A.map En.v)⟩)]⟩)
   (fun (k,A,_)=>k≤m.aW.length∧A=m.bp.map DQ++m.ways.map Ge++(m.aW.map LQ).take k∧A.length≤20000+k) (fun (k,_)=>m.aW.length - k) (0,A,g) (by(refine⟨?_,?_⟩ <;>repeat' (first| exact True.intro| refine ai ?_| refine And.intro ?_ ?_))) ⟨by simp,by simp[hA],by(first| omega| (dsimp only;omega))⟩ ?_
 clear hA hl A g
 rintro⟨k,A,g⟩ ⟨hk,hA,hl⟩
 try dsimp only at hk hA hl
 by_cases bA:k<m.aW.length
 · obtain⟨f,hf⟩: ∃f,m.aW[k]? =some f:=⟨_,aJ bA⟩
   have he:=Ud f
   (conv=>whnf);repeat' ((first| intro g| refine aL.mk _ (au hf rfl) ?_| refine ag.mk _ (he) ?_| refine st ?_| (first| refine b1 ?_ ?_| refine b2 ?_ ?_| refine Br.mk ?_ ?_) <;>intro hc| exact rfl) <;>conv=>whnf)
   exact bI.mk (k+1,A++[LQ f],g) (by first| omega| (dsimp only;omega)) ⟨(by first| omega| (dsimp only;omega)),by rw[tk hf,hA];simp,by simp;omega⟩ (by(refine⟨?_,?_⟩ <;>repeat' (first| exact True.intro| refine ai ?_| refine And.intro ?_ ?_)))
 obtain rfl:k=m.aW.length:=by omega
 rw[List.take_of_length_le (by simp)] at hA
 have G6:rN m=A:=hA.symm
 rw[G6]
 clear hA G6
 have LX:A.length< 1000000:=by omega
 clear hl h1 h2 h3 bA hk
 by_cases h0:A.length=0
 · have:A=[]:=List.length_eq_zero_iff.1 h0
   subst this
   rw[if_pos rfl]
   (conv=>whnf);repeat' ((first| intro g| refine dC.mk (⟨by simp[ie],Kn.cr _⟩) ?_| refine aL.mk _ (bl rfl) ?_| refine st ?_| (first| refine b1 ?_ ?_| refine b2 ?_ ?_| refine Br.mk ?_ ?_) <;>intro hc| exact rfl) <;>conv=>whnf)
 rw[if_neg (fun h=>h0 (by rw[h];rfl))]
 (conv=>whnf);repeat' ((first| intro g| refine st ?_| (first| refine b1 ?_ ?_| refine b2 ?_ ?_| refine Br.mk ?_ ?_) <;>intro hc| exact rfl) <;>conv=>whnf)
 rename_i g8 Xc Xd Xe Xf Xg
 refine ba.by (fun ((k,B,ga,gb,gc,gd,ge,gf):Nat×List En×Nat×Nat×Nat×Nat×Nat×Nat)=> ⟨[(7,.sl 129 qD 0 3),(15,.sl 257 ga 0 B.length),(16,.sl 273 gb 0 B.length),(17,.sl 289 gc 0 B.length),(18,.sl 305 gd 0 B.length),(19,.sl 321 ge 0 B.length),(20,.sl 337 gf 0 B.length),(120,.sl 145 g8 0 A.length),(121,aT A.length),(122,aT k)],
    [(129,⟨qD,4,true,false,some ((ie v).map Kn.v)⟩),(145,⟨g8,9,true,false,some (A.map En.v)⟩),(257,⟨ga,1,true,false,some ((B.map En.kind).map vi)⟩),(273,⟨gb,1,true,false,some ((B.map En.weight).map vi)⟩),(289,⟨gc,1,true,false,some ((B.map En.level).map vi)⟩),(305,⟨gd,1,true,false,some ((B.map fun x=>zt x.cZ).map vi)⟩),(321,⟨ge,1,true,false,some ((B.map En.cls).map V.str)⟩),(337,⟨gf,1,true,false,some ((B.map En.name).map V.str)⟩)]⟩)
   (fun (k,B,_)=>k≤A.length∧B=A.take k∧B.length=k) (fun (k,_)=>A.length - k) (0,[],Xc,Xd,Xe,Xf,Xg,g) (by(refine⟨?_,?_⟩ <;>repeat' (first| exact True.intro| refine ai ?_| refine And.intro ?_ ?_))) ⟨by simp,by simp,by simp⟩ ?_
 rintro⟨k,B,ga,gb,gc,gd,ge,gf⟩ ⟨hk,hB,hl⟩
 try dsimp only at hk hB hl
 by_cases bA:k<A.length
 · obtain⟨x,hx⟩: ∃x,A[k]? =some x:=⟨_,aJ bA⟩
   have Z9:B++[x]=A.take (k+1):=by rw[hB,List.take_add_one,hx];rfl
   refine LW hx bA LX hl fun T' O' UX UY UZ U0 U1 U2 hs=>bI.mk (k+1,B++[x],UX,UY,UZ,U0,U1,U2) (by first| omega| (dsimp only;omega)) ⟨(by first| omega| (dsimp only;omega)),Z9,by simp;omega⟩ hs
 obtain rfl:k=A.length:=by omega
 obtain rfl:B=A:=by rw[hB,List.take_of_length_le (Nat.le_refl _)]
 have GL:0 <B.length:=by omega
 clear bA hk hl hB h0 hz hq a1 a2 a3 a4 a5 a6 a7 a8
 have kn: ∀ (f:En→Int) (x:Int),Ev E 451 [vi x,.lit 1 ((B.map f).map vi)] ⟨Kn.v ⟨x,gj (B.map f) B.length,dA (B.map f) B.length,[]⟩,[]⟩:=fun f x=>by
   have:=xP (l:=B.map f) x (by simpa using GL) (by simpa using LX)
   rwa [List.length_map] at this
 have nm: ∀ (f:En→eX) (x:Int),Ev E 455 [vi x,.msl 1 ((B.map f).map V.str) 0 B.length] ⟨.agg [vi x,vi 0,vi 0,.sl 1 0 0 (Mt (B.map f)).length],[(0,(eQ (iV (B.map f))).map V.str)]⟩:=fun f x=>by
   have:=DU (l:=B.map f) x (by simpa using LX)
   rwa [List.length_map] at this
 dsimp only[ie,List.map_cons,List.map_nil]
 (conv=>whnf);repeat' ((first| intro g| refine dC.mk (⟨rfl,rfl,(xR _).1,dW _⟩) ?_| refine dC.mk (Kn.cr _) ?_| refine aL.mk _ (Gg _) ?_| refine ag.mk _ (kn _ _) ?_| refine ag.mk _ (nm _ _) ?_| refine st ?_| (first| refine b1 ?_ ?_| refine b2 ?_ ?_| refine Br.mk ?_ ?_) <;>intro hc| exact rfl) <;>conv=>whnf)
end Go.AM
