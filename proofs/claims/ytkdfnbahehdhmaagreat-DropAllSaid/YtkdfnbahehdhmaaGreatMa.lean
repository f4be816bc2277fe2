/-
  Texts of the proof, joined by program: SMadeB, SMadeC, SMadeD. Own work.
-/
import Derived.Test.YtkdfnbahehdhmaaGreatData
set_option linter.unusedSimpArgs false
set_option linter.unusedVariables false
set_option maxRecDepth 20000
namespace Go.AM
theorem GM (a b:Pt):Ev E 161 [a.v,b.v] ⟨(Pt.mk (wb (a.x - b.x)) (wb (a.y - b.y))).v,[]⟩:=by
 refine Ev.aG LI (LJ _) rfl ?_
 (conv=>whnf);repeat' ((first| intro g| refine st ?_| (refine aL.bP ?_;intro s) | (first| refine b1 ?_ ?_| refine b2 ?_ ?_| refine Br.mk ?_ ?_) <;>intro hc| exact rfl) <;>conv=>whnf)
theorem tW {l:List Int} (hl:l.length< 9223372036854775808) {i j:Nat} (hi:i< 10) (hj:j< 10): ∃p:Pt,Ev E 115 [.lit 1 (l.map vi),aD i,aD j] ⟨p.v,[]⟩:=by
 have key:=Ev.cO (R:=fun r=> ∃p:Pt,r=⟨p.v,[]⟩) Vc (Vd [.lit 1 (l.map vi),aD i,aD j]) rfl ?_
 · obtain⟨res,h1,p,rfl⟩:=key
   exact⟨p,h1⟩
 have w0:IntKind.i64.wrap (4*(j:Int))=((4*j:Nat):Int):=(wrap64 (by omega) (by omega)).trans (by omega)
 have w1:IntKind.i64.wrap (IntKind.i64.wrap (4*(j:Int))+(i:Int))=((4*j+i:Nat):Int):=by rw[w0];exact(wrap64 (by omega) (by omega)).trans (by omega)
 have w2:IntKind.i64.wrap (2*IntKind.i64.wrap (IntKind.i64.wrap (4*(j:Int))+(i:Int)))=((2*(4*j+i):Nat):Int):=by rw[w1];exact(wrap64 (by omega) (by omega)).trans (by omega)
 have w3:IntKind.i64.wrap (IntKind.i64.wrap (2*IntKind.i64.wrap (IntKind.i64.wrap (4*(j:Int))+(i:Int)))+1)=((2*(4*j+i)+1:Nat):Int):=by rw[w2];exact(wrap64 (by omega) (by omega)).trans (by omega)
 by_cases bl:2*(4*j+i)+1 <l.length
 · have hx:=aE (l:=l) (i:=2*(4*j+i)) (by omega)
   have hy:=aE (l:=l) (i:=2*(4*j+i)+1) (by omega)
   (conv=>whnf);repeat' ((first| intro g| refine aL.mk _ (aq hx w2) ?_| refine aL.mk _ (aq hy w3) ?_| refine ag.mk _ (Bn (by decide)) ?_| refine st ?_| (refine aL.bP ?_;intro s) | (first| refine b1 ?_ ?_| refine b2 ?_ ?_| refine Br.mk ?_ ?_) <;>intro hc| exact rfl) <;>conv=>whnf)
   all_goals exact⟨⟨_,_⟩,rfl⟩
 · (conv=>whnf);repeat' ((first| intro g| refine st ?_| (refine aL.bP ?_;intro s) | (first| refine b1 ?_ ?_| refine b2 ?_ ?_| refine Br.mk ?_ ?_) <;>intro hc| exact rfl) <;>conv=>whnf)
   all_goals exact⟨⟨_,_⟩,rfl⟩
theorem wN {l:List Int} (hl:l.length< 9223372036854775808) (p q:Pt) (a0:Nat): ∃ (ps:List Pt) (a:Nat),2≤ps.length∧ps.length≤5∧Ev E 114 [p.v,q.v,.mptr 2 [c8 l a0] 0 0] ⟨.own 2 (ps.map Pt.v),[(0,[c8 l a])]⟩:=by
 have key:=Ev.cO (R:=fun r=> ∃ (ps:List Pt) (a:Nat),2≤ps.length∧ps.length≤5∧r=⟨.own 2 (ps.map Pt.v),[(0,[c8 l a])]⟩) Va (Vb [p.v,q.v,.mptr 2 [c8 l a0] 0 0]) rfl ?_
 · obtain⟨res,h1,ps,a,h2,h3,rfl⟩:=key
   exact⟨ps,a,h2,h3,h1⟩
 have hn: ∀n a,0 <n→n< 1000→Ev E 85 [.mptr 2 [c8 l a] 0 0,aD n] ⟨aD (fm l a n),[(0,[c8 l (b5 l a)])]⟩:=fun n a h h2=>b8 hl n h (by omega)
 have hb:=gH (l:=l) (a:=a0) (n:=4) (by omega) (by omega)
 have Bt:=GM q p
 generalize hm:fm l a0 4=many at hb
 have n4:=hn 4 a0 (by omega) (by omega)
 rw[hm] at n4
 (conv=>whnf);repeat' ((first| intro g| refine ag.mk _ (n4) ?_| refine ag.mk _ (Bt) ?_| refine st ?_| (refine aL.bP ?_;intro s) | (first| refine b1 ?_ ?_| refine b2 ?_ ?_| refine Br.mk ?_ ?_) <;>intro hc| exact rfl) <;>conv=>whnf)
 rename_i g3 g4 _ g7
 generalize hu:Pt.mk (wb (q.x - p.x)) (wb (q.y - p.y))=u
 refine aV.by (fun ((k,ps,a,g7):Nat×List Pt×Nat×Nat)=> ⟨[(2,.ptr 2 0 0 0),(3,.ptr 64 g3 0 0),(4,.ptr 80 g4 0 0),(7,.sl 129 g7 0 ps.length),(8,aD many),(9,.ptr 160 g 0 0),(10,aD (k+1))],
    [(2,⟨0,2,false,false,some [c8 l a]⟩),(64,⟨g3,2,false,false,some [p.v]⟩),(80,⟨g4,2,false,false,some [q.v]⟩),(129,⟨g7,2,true,false,some (ps.map Pt.v)⟩),(160,⟨g,2,false,false,some [u.v]⟩)]⟩)
   (fun (k,ps,_,_)=>k≤many∧ps.length=k+1) (fun (k,_)=>many - k) (0,[p],b5 l a0,g7) (by subst hu; (refine⟨?_,?_⟩ <;>repeat' (first| exact True.intro| refine ai ?_| refine And.intro ?_ ?_))) ⟨by simp,by simp⟩ ?_
 rintro⟨k,ps,a,g7⟩ ⟨hk,vW⟩
 try dsimp only at hk vW
 have n21:=hn 21 a (by omega) (by omega)
 have e1:IntKind.i64.wrap ((many:Int)+1)=((many+1:Nat):Int):=(wrap64 (by omega) (by omega)).trans (by omega)
 have e2: (many:Int).tdiv 2=((many / 2:Nat):Int):=rfl
 have e3:IntKind.i64.wrap ((many:Int).tdiv 2)=((many / 2:Nat):Int):=by rw[e2];exact(wrap64 (by omega) (by omega)).trans (by omega)
 have e4:IntKind.i64.wrap (1+IntKind.i64.wrap ((many:Int).tdiv 2))=((1+many / 2:Nat):Int):=by rw[e3];exact(wrap64 (by omega) (by omega)).trans (by omega)
 (conv=>whnf);repeat' ((first| intro g| refine ag.mk _ (n21) ?_| refine st ?_| (refine aL.bP ?_;intro s) | (first| refine b1 ?_ ?_| refine b2 ?_ ?_| refine Br.mk ?_ ?_) <;>intro hc| exact rfl) <;>conv=>whnf)
 · refine a9.mk (k+1,ps++[⟨?x,?y⟩],?a,?g) ?h1 ?h2 ?h3
   case h3=> (refine⟨?_,?_⟩ <;>repeat' (first| exact True.intro| refine ai ?_| refine And.intro ?_ ?_))
   case h1=> (first| omega| (dsimp only;omega))
   case h2=>exact⟨by omega,by simp;omega⟩
 · refine a9.mk (k+1,ps++[⟨?x2,?y2⟩],?a2,?g2) ?k1 ?k2 ?k3
   case k3=> (refine⟨?_,?_⟩ <;>repeat' (first| exact True.intro| refine ai ?_| refine And.intro ?_ ?_))
   case k1=> (first| omega| (dsimp only;omega))
   case k2=>exact⟨by omega,by simp;omega⟩
 · exact⟨ps++[q],a,by simp;omega,by simp;omega,by simp⟩
end Go.AM
set_option maxRecDepth 20000
namespace Go.AM
set_option maxHeartbeats 1000000 in
theorem wO (e:Edge) (h0:e.line≠[]) (hl:e.line.length< 1000000): ∃e':Edge,e'.line.length=e.line.length∧Ev E 131 [e.v] ⟨.agg [vi e'.id,.own 2 (e'.line.map Pt.v),vi e'.left,vi e'.right],[]⟩:=by
 have key:=Ev.cO (R:=fun r=> ∃e':Edge,e'.line.length=e.line.length∧r=⟨.agg [vi e'.id,.own 2 (e'.line.map Pt.v),vi e'.left,vi e'.right],[]⟩) LK (LL [e.v]) rfl ?_
 · obtain⟨res,h1,e',h2,rfl⟩:=key
   exact⟨e',h2,h1⟩
 have hp:0 <e.line.length:=List.length_pos_iff.2 h0
 have e1:IntKind.i64.wrap ((e.line.length:Int) - 1)=(e.line.length:Int) - 1:=wrap64 (by omega) (by omega)
 (conv=>whnf);repeat' ((first| intro g| refine st ?_| (refine aL.bP ?_;intro s) | (first| refine b1 ?_ ?_| refine b2 ?_ ?_| refine Br.mk ?_ ?_) <;>intro hc| exact rfl) <;>conv=>whnf)
 rename_i g1 g2
 refine aV.by (fun ((j,ps,og):Nat×List Pt×Option Nat)=> ⟨[(1,.ptr 32 g1 0 0),(2,.ptr 48 g2 0 0),(3,.ptr 64 g 0 0),(4,vi ((j:Int) - 1))],
     match og with
     | none=> [(32,⟨g1,4,false,false,some [e.v]⟩),(48,⟨g2,4,false,false,some [.agg [vi 0,.lit 2 [],vi 0,vi 0]]⟩),(64,⟨g,4,false,false,some [.agg [vi e.id,.nils,vi e.right,vi e.left]]⟩)]
     | some g5=> [(32,⟨g1,4,false,false,some [e.v]⟩),(48,⟨g2,4,false,false,some [.agg [vi 0,.lit 2 [],vi 0,vi 0]]⟩),(64,⟨g,4,false,false,some [.agg [vi e.id,.sl 67 g5 0 ps.length,vi e.right,vi e.left]]⟩),(67,⟨g5,2,true,false,some (ps.map Pt.v)⟩)]⟩)
   (fun (j,ps,og)=>j+ps.length=e.line.length∧(og=none→ps=[])) (fun (j,_)=>j) (e.line.length,[],none) ?_ ⟨by simp,by simp⟩ ?_
 · (refine⟨?_,?_⟩ <;>repeat' (first| exact True.intro| refine ai ?_| refine And.intro ?_ ?_))
 rintro⟨j,ps,og⟩ ⟨hj,Q4⟩
 try dsimp only at hj Q4
 cases j with
 | zero=>
   cases og with
   | none=>have:=Q4 rfl;subst this;simp at hj;omega
   | some g5=>
     (conv=>whnf);repeat' ((first| intro g| refine st ?_| (refine aL.bP ?_;intro s) | (first| refine b1 ?_ ?_| refine b2 ?_ ?_| refine Br.mk ?_ ?_) <;>intro hc| exact rfl) <;>conv=>whnf)
     exact⟨⟨e.id,ps,e.right,e.left⟩,by simpa using hj,rfl⟩
 | succ j=>
   obtain⟨x,hx⟩: ∃x,e.line[j]? =some x:=⟨_,aE (by omega)⟩
   have Ej: ((j+1:Nat):Int) - 1=(j:Int):=by omega
   cases og with
   | none=>
     have:=Q4 rfl
     subst this
     (conv=>whnf);repeat' ((first| intro g| refine aL.mk _ (aq hx Ej) ?_| refine st ?_| (refine aL.bP ?_;intro s) | (first| refine b1 ?_ ?_| refine b2 ?_ ?_| refine Br.mk ?_ ?_) <;>intro hc| exact rfl) <;>conv=>whnf)
     refine a9.mk (j,[x],some g) (by first| omega| (dsimp only;omega)) ⟨by simp at hj ⊢;omega,by simp⟩ (by(refine⟨?_,?_⟩ <;>repeat' (first| exact True.intro| refine ai ?_| refine And.intro ?_ ?_)))
   | some g5=>
     (conv=>whnf);repeat' ((first| intro g| refine aL.mk _ (aq hx Ej) ?_| refine st ?_| (refine aL.bP ?_;intro s) | (first| refine b1 ?_ ?_| refine b2 ?_ ?_| refine Br.mk ?_ ?_) <;>intro hc| exact rfl) <;>conv=>whnf)
     refine a9.mk (j,ps++[x],some g) (by first| omega| (dsimp only;omega)) ⟨by simp at hj ⊢;omega,by simp⟩ (by(refine⟨?_,?_⟩ <;>repeat' (first| exact True.intro| refine ai ?_| refine And.intro ?_ ?_)))
def iH (ps:List Pt):Prop:=2≤ps.length∧ps.length≤5
def ij (es:List Edge) (n:Nat):Prop:=es.length≤n∧ ∀e ∈ es,iH e.line
theorem ij.snoc {es:List Edge} {n:Nat} {e:Edge} (h:ij es n) (k:iH e.line):ij (es++[e]) (n+1):=
 ⟨by have:=h.1;simp;omega,fun x hx=>by
   rcases List.mem_append.1 hx with hx| hx
   · exact h.2 x hx
   · have:x=e:=by simpa using hx
     subst this;exact k⟩
theorem ij.mono {es:List Edge} {n m:Nat} (h:ij es n) (k:n≤m):ij es m:=⟨Nat.le_trans h.1 k,h.2⟩
set_option maxHeartbeats 1000000 in
theorem Bu {l:List Int} (hl:l.length< 9223372036854775808) {es:List Edge} {n:Nat} (he:ij es n) (hn:n< 1000) {ps:List Pt} (vW:iH ps) (left right:Int) (a0:Nat):
   ∃ (es':List Edge) (a b:Nat),ij es' (n+1)∧Ev E 113 [.msl 4 (es.map Edge.v) 0 es.length,dJ ps,vi left,vi right,.mptr 2 [c8 l a0] 0 0] ⟨.sl 0 b 0 es'.length,[(b,es'.map Edge.v),(0,[c8 l a])]⟩:=by
 have key:=Ev.cO (R:=fun r=> ∃ (es':List Edge) (a b:Nat),ij es' (n+1)∧r=⟨.sl 0 b 0 es'.length,[(b,es'.map Edge.v),(0,[c8 l a])]⟩) U8 (U9 [.msl 4 (es.map Edge.v) 0 es.length,dJ ps,vi left,vi right,.mptr 2 [c8 l a0] 0 0]) rfl ?_
 · obtain⟨res,h1,es',a,b,h2,rfl⟩:=key
   exact⟨es',a,b,h2,h1⟩
 have oO:=he.1
 have n2:=b8 hl 2 (a:=a0) (by omega) (by omega)
 have GN:IntKind.i64.wrap ((es.length:Int)+1)=(es.length:Int)+1:=wrap64 (by omega) (by omega)
 obtain⟨e',Kd,W5⟩:=wO ⟨IntKind.i64.wrap ((es.length:Int)+1),ps,left,right⟩ (by intro h;dsimp only at h;subst h;have:=vW.1;simp at this) (by dsimp only;have:=vW.2;omega)
 (conv=>whnf);repeat' ((first| intro g| refine ag.mk _ (n2) ?_| refine ag.mk _ (W5) ?_| refine st ?_| (refine aL.bP ?_;intro s) | (first| refine b1 ?_ ?_| refine b2 ?_ ?_| refine Br.mk ?_ ?_) <;>intro hc| exact rfl) <;>conv=>whnf)
 · exact⟨es,a0,0,he.mono (by omega),rfl⟩
 · refine⟨es++[e'],b5 l a0,g,he.snoc ?_,?_⟩
   · unfold iH at*;dsimp only at Kd;omega
   · simp only[List.map_append,List.map_cons,List.map_nil,List.length_append,List.length_cons,List.length_nil,List.length_map];rfl
 · refine⟨es++[⟨IntKind.i64.wrap ((es.length:Int)+1),ps,left,right⟩],b5 l a0,g,he.snoc vW,?_⟩
   simp only[List.map_append,List.map_cons,List.map_nil,List.length_append,List.length_cons,List.length_nil,List.length_map];rfl
end Go.AM
set_option maxRecDepth 20000
namespace Go.AM
theorem tX {cs:List Int} (db:cs.length=6) {w h:Nat} (hw:w≤3) (hh:h≤2) (i j:Int): ∃r:Int,Ev E 116 [.agg (cs.map vi),aD w,aD h,vi i,vi j] ⟨vi r,[]⟩:=by
 have key:=Ev.cO (R:=fun r=> ∃x:Int,r=⟨vi x,[]⟩) Ve (Vf [.agg (cs.map vi),aD w,aD h,vi i,vi j]) rfl ?_
 · obtain⟨res,h1,x,rfl⟩:=key
   exact⟨x,h1⟩
 match cs,db with
 | [x0,x1,x2,x3,x4,x5],_=>
   by_cases lH:0≤i∧0≤j∧i<w∧j<h
   · rcases(by omega:i=0∨i=1∨i=2) with rfl| rfl| rfl<;>rcases(by omega:j=0∨j=1) with rfl| rfl
     all_goals
      (conv=>whnf);repeat' ((first| intro g| refine st ?_| (refine aL.bP ?_;intro s) | (first| refine b1 ?_ ?_| refine b2 ?_ ?_| refine Br.mk ?_ ?_) <;>intro hc| exact rfl) <;>conv=>whnf)
      all_goals exact⟨_,rfl⟩
   · (conv=>whnf);repeat' ((first| intro g| refine st ?_| (refine aL.bP ?_;intro s) | (first| refine b1 ?_ ?_| refine b2 ?_ ?_| refine Br.mk ?_ ?_) <;>intro hc| exact rfl) <;>conv=>whnf)
     all_goals first| exact⟨_,rfl⟩ | (exfalso;omega)
theorem tY {k:Nat} {n:Int} (A B:List Int) (h:A.length+B.length≤k): ∃l':List Int,l'.length≤k+1∧
  ((⟨V.own 1 ([]++A.map vi++[vi n]++B.map vi),[]⟩:fL)=⟨.lit 1 (l'.map vi),[]⟩∨(⟨V.own 1 ([]++A.map vi++[vi n]++B.map vi),[]⟩:fL)=⟨.own 1 (l'.map vi),[]⟩):=
 ⟨A++[n]++B,by simp;omega,.inr (by simp)⟩
theorem Q5 {l:List Int} (hl:l.length< 1000000) (n:Int): ∃l':List Int,l'.length≤l.length+1∧(Ev E 162 [.lit 1 (l.map vi),vi n] ⟨.lit 1 (l'.map vi),[]⟩∨Ev E 162 [.lit 1 (l.map vi),vi n] ⟨.own 1 (l'.map vi),[]⟩):=by
 have key:=Ev.cO (R:=fun r=> ∃l':List Int,l'.length≤l.length+1∧(r=⟨.lit 1 (l'.map vi),[]⟩∨r=⟨.own 1 (l'.map vi),[]⟩)) VI (VJ [.lit 1 (l.map vi),vi n]) rfl ?_
 · obtain⟨res,h1,l',h2,rfl| rfl⟩:=key
   · exact⟨l',h2,.inl h1⟩
   · exact⟨l',h2,.inr h1⟩
 (conv=>whnf);repeat' ((first| intro g| refine st ?_| (refine aL.bP ?_;intro s) | (first| refine b1 ?_ ?_| refine b2 ?_ ?_| refine Br.mk ?_ ?_) <;>intro hc| exact rfl) <;>conv=>whnf)
 refine aV.by (fun (j:Nat)=> ⟨[(0,.lit 1 (l.map vi)),(1,vi n),(5,aD j)],[]⟩) (fun j=>j≤l.length) (fun j=>j) l.length ?_ (Nat.le_refl _) ?_
 · (refine⟨?_,?_⟩ <;>repeat' (first| exact True.intro| refine ai ?_| refine And.intro ?_ ?_))
 intro j hj
 by_cases bl:j<l.length
 · obtain⟨x,hx⟩: ∃x,l[j]? =some x:=⟨_,aE bl⟩
   cases j with
   | zero=>
     (conv=>whnf);repeat' ((first| intro g| refine aL.mk _ (aq hx rfl) ?_| refine aL.mk _ (jE _ _ _ _) ?_| refine st ?_| (refine aL.bP ?_;intro s) | (first| refine b1 ?_ ?_| refine b2 ?_ ?_| refine Br.mk ?_ ?_) <;>intro hc| exact rfl) <;>conv=>whnf)
     all_goals first
      | exact⟨l,by omega,.inl rfl⟩
      | exact a9.mk j (by first| omega| (dsimp only;omega)) (by omega) (by(refine⟨?_,?_⟩ <;>repeat' (first| exact True.intro| refine ai ?_| refine And.intro ?_ ?_)))
      | exact tY _ _ (by simp only[List.length_take,List.length_drop,List.length_map];omega)
      | trace_state
   | succ j=>
     obtain⟨y,hy⟩: ∃y,l[j]? =some y:=⟨_,aE (by omega)⟩
     have Ej:IntKind.i64.wrap (((j+1:Nat):Int) - 1)=(j:Int):=(wrap64 (by omega) (by omega)).trans (by omega)
     (conv=>whnf);repeat' ((first| intro g| refine aL.mk _ (aq hx rfl) ?_| refine aL.mk _ (aq hy Ej) ?_| refine aL.mk _ (jE _ _ _ _) ?_| refine st ?_| (refine aL.bP ?_;intro s) | (first| refine b1 ?_ ?_| refine b2 ?_ ?_| refine Br.mk ?_ ?_) <;>intro hc| exact rfl) <;>conv=>whnf)
     all_goals first
      | exact⟨l,by omega,.inl rfl⟩
      | exact a9.mk j (by first| omega| (dsimp only;omega)) (by omega) (by(refine⟨?_,?_⟩ <;>repeat' (first| exact True.intro| refine ai ?_| refine And.intro ?_ ?_)))
      | exact tY _ _ (by simp only[List.length_take,List.length_drop,List.length_map];omega)
      | trace_state
 · cases j with
   | zero=>
     (conv=>whnf);repeat' ((first| intro g| refine aL.mk _ (jE _ _ _ _) ?_| refine st ?_| (refine aL.bP ?_;intro s) | (first| refine b1 ?_ ?_| refine b2 ?_ ?_| refine Br.mk ?_ ?_) <;>intro hc| exact rfl) <;>conv=>whnf)
     all_goals first
      | exact⟨l,by omega,.inl rfl⟩
      | exact a9.mk j (by first| omega| (dsimp only;omega)) (by omega) (by(refine⟨?_,?_⟩ <;>repeat' (first| exact True.intro| refine ai ?_| refine And.intro ?_ ?_)))
      | exact tY _ _ (by simp only[List.length_take,List.length_drop,List.length_map];omega)
      | trace_state
   | succ j=>
     obtain⟨y,hy⟩: ∃y,l[j]? =some y:=⟨_,aE (by omega)⟩
     have Ej:IntKind.i64.wrap (((j+1:Nat):Int) - 1)=(j:Int):=(wrap64 (by omega) (by omega)).trans (by omega)
     (conv=>whnf);repeat' ((first| intro g| refine aL.mk _ (aq hy Ej) ?_| refine aL.mk _ (jE _ _ _ _) ?_| refine st ?_| (refine aL.bP ?_;intro s) | (first| refine b1 ?_ ?_| refine b2 ?_ ?_| refine Br.mk ?_ ?_) <;>intro hc| exact rfl) <;>conv=>whnf)
     all_goals first
      | exact⟨l,by omega,.inl rfl⟩
      | exact a9.mk j (by first| omega| (dsimp only;omega)) (by omega) (by(refine⟨?_,?_⟩ <;>repeat' (first| exact True.intro| refine ai ?_| refine And.intro ?_ ?_)))
      | exact tY _ _ (by simp only[List.length_take,List.length_drop,List.length_map];omega)
      | trace_state
end Go.AM
