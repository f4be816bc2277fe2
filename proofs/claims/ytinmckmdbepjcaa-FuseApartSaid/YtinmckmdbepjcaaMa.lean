/-
  Texts of the proof, joined by program: SMadeB, SMadeC, SMadeD. Own work.
-/
import Derived.Test.YtinmckmdbepjcaaData
set_option linter.unusedSimpArgs false
set_option linter.unusedVariables false
set_option maxRecDepth 20000
namespace Go.AM
theorem E5 (a b:Pt):Ev E 161 [a.v,b.v] ⟨(Pt.mk (EE (a.x - b.x)) (EE (a.y - b.y))).v,[]⟩:=by
 refine Ev.bU OG (OH _) rfl ?_
 (conv=>whnf);repeat' ((first| intro g| refine st ?_| (refine aH.bR ?_;intro s) | (first| refine b1 ?_ ?_| refine b2 ?_ ?_| refine Br.mk ?_ ?_) <;>intro hc| exact rfl) <;>conv=>whnf)
theorem tu {l:List Int} (hl:l.length< 9223372036854775808) {i j:Nat} (hi:i< 10) (hj:j< 10): ∃p:Pt,Ev E 115 [.lit 1 (l.map vi),aF i,aF j] ⟨p.v,[]⟩:=by
 have key:=Ev.cQ (R:=fun r=> ∃p:Pt,r=⟨p.v,[]⟩) Og (Oi [.lit 1 (l.map vi),aF i,aF j]) rfl ?_
 · obtain⟨res,h1,p,rfl⟩:=key
   exact⟨p,h1⟩
 have w0:IntKind.i64.wrap (4*(j:Int))=((4*j:Nat):Int):=(wrap64 (by omega) (by omega)).trans (by omega)
 have w1:IntKind.i64.wrap (IntKind.i64.wrap (4*(j:Int))+(i:Int))=((4*j+i:Nat):Int):=by rw[w0];exact(wrap64 (by omega) (by omega)).trans (by omega)
 have w2:IntKind.i64.wrap (2*IntKind.i64.wrap (IntKind.i64.wrap (4*(j:Int))+(i:Int)))=((2*(4*j+i):Nat):Int):=by rw[w1];exact(wrap64 (by omega) (by omega)).trans (by omega)
 have w3:IntKind.i64.wrap (IntKind.i64.wrap (2*IntKind.i64.wrap (IntKind.i64.wrap (4*(j:Int))+(i:Int)))+1)=((2*(4*j+i)+1:Nat):Int):=by rw[w2];exact(wrap64 (by omega) (by omega)).trans (by omega)
 by_cases bk:2*(4*j+i)+1 <l.length
 · have hx:=aL (l:=l) (i:=2*(4*j+i)) (by omega)
   have hy:=aL (l:=l) (i:=2*(4*j+i)+1) (by omega)
   (conv=>whnf);repeat' ((first| intro g| refine aH.mk _ (aC hx w2) ?_| refine aH.mk _ (aC hy w3) ?_| refine ag.mk _ (Ac (by decide)) ?_| refine st ?_| (refine aH.bR ?_;intro s) | (first| refine b1 ?_ ?_| refine b2 ?_ ?_| refine Br.mk ?_ ?_) <;>intro hc| exact rfl) <;>conv=>whnf)
   all_goals exact⟨⟨_,_⟩,rfl⟩
 · (conv=>whnf);repeat' ((first| intro g| refine st ?_| (refine aH.bR ?_;intro s) | (first| refine b1 ?_ ?_| refine b2 ?_ ?_| refine Br.mk ?_ ?_) <;>intro hc| exact rfl) <;>conv=>whnf)
   all_goals exact⟨⟨_,_⟩,rfl⟩
theorem v7 {l:List Int} (hl:l.length< 9223372036854775808) (p q:Pt) (a0:Nat): ∃ (ps:List Pt) (a:Nat),2≤ps.length∧ps.length≤5∧Ev E 114 [p.v,q.v,.mptr 2 [de l a0] 0 0] ⟨.own 2 (ps.map Pt.v),[(0,[de l a])]⟩:=by
 have key:=Ev.cQ (R:=fun r=> ∃ (ps:List Pt) (a:Nat),2≤ps.length∧ps.length≤5∧r=⟨.own 2 (ps.map Pt.v),[(0,[de l a])]⟩) Od (Oe [p.v,q.v,.mptr 2 [de l a0] 0 0]) rfl ?_
 · obtain⟨res,h1,ps,a,h2,h3,rfl⟩:=key
   exact⟨ps,a,h2,h3,h1⟩
 have hn: ∀n a,0 <n→n< 1000→Ev E 85 [.mptr 2 [de l a] 0 0,aF n] ⟨aF (fg l a n),[(0,[de l (b8 l a)])]⟩:=fun n a h h2=>cg hl n h (by omega)
 have hb:=gA (l:=l) (a:=a0) (n:=4) (by omega) (by omega)
 have E6:=E5 q p
 generalize hm:fg l a0 4=many at hb
 have n4:=hn 4 a0 (by omega) (by omega)
 rw[hm] at n4
 (conv=>whnf);repeat' ((first| intro g| refine ag.mk _ (n4) ?_| refine ag.mk _ (E6) ?_| refine st ?_| (refine aH.bR ?_;intro s) | (first| refine b1 ?_ ?_| refine b2 ?_ ?_| refine Br.mk ?_ ?_) <;>intro hc| exact rfl) <;>conv=>whnf)
 rename_i g3 g4 _ g7
 generalize hu:Pt.mk (EE (q.x - p.x)) (EE (q.y - p.y))=u
 refine ba.by (fun ((k,ps,a,g7):Nat×List Pt×Nat×Nat)=> ⟨[(2,.ptr 2 0 0 0),(3,.ptr 64 g3 0 0),(4,.ptr 80 g4 0 0),(7,.sl 129 g7 0 ps.length),(8,aF many),(9,.ptr 160 g 0 0),(10,aF (k+1))],
    [(2,⟨0,2,false,false,some [de l a]⟩),(64,⟨g3,2,false,false,some [p.v]⟩),(80,⟨g4,2,false,false,some [q.v]⟩),(129,⟨g7,2,true,false,some (ps.map Pt.v)⟩),(160,⟨g,2,false,false,some [u.v]⟩)]⟩)
   (fun (k,ps,_,_)=>k≤many∧ps.length=k+1) (fun (k,_)=>many - k) (0,[p],b8 l a0,g7) (by subst hu; (refine⟨?_,?_⟩ <;>repeat' (first| exact True.intro| refine ai ?_| refine And.intro ?_ ?_))) ⟨by simp,by simp⟩ ?_
 rintro⟨k,ps,a,g7⟩ ⟨hk,ve⟩
 try dsimp only at hk ve
 have Wa:=hn 21 a (by omega) (by omega)
 have e1:IntKind.i64.wrap ((many:Int)+1)=((many+1:Nat):Int):=(wrap64 (by omega) (by omega)).trans (by omega)
 have e2: (many:Int).tdiv 2=((many / 2:Nat):Int):=rfl
 have e3:IntKind.i64.wrap ((many:Int).tdiv 2)=((many / 2:Nat):Int):=by rw[e2];exact(wrap64 (by omega) (by omega)).trans (by omega)
 have e4:IntKind.i64.wrap (1+IntKind.i64.wrap ((many:Int).tdiv 2))=((1+many / 2:Nat):Int):=by rw[e3];exact(wrap64 (by omega) (by omega)).trans (by omega)
 (conv=>whnf);repeat' ((first| intro g| refine ag.mk _ (Wa) ?_| refine st ?_| (refine aH.bR ?_;intro s) | (first| refine b1 ?_ ?_| refine b2 ?_ ?_| refine Br.mk ?_ ?_) <;>intro hc| exact rfl) <;>conv=>whnf)
 · refine bc.mk (k+1,ps++[⟨?x,?y⟩],?a,?g) ?h1 ?h2 ?h3
   case h3=> (refine⟨?_,?_⟩ <;>repeat' (first| exact True.intro| refine ai ?_| refine And.intro ?_ ?_))
   case h1=> (first| omega| (dsimp only;omega))
   case h2=>exact⟨by omega,by simp;omega⟩
 · refine bc.mk (k+1,ps++[⟨?x2,?y2⟩],?a2,?g2) ?k1 ?k2 ?k3
   case k3=> (refine⟨?_,?_⟩ <;>repeat' (first| exact True.intro| refine ai ?_| refine And.intro ?_ ?_))
   case k1=> (first| omega| (dsimp only;omega))
   case k2=>exact⟨by omega,by simp;omega⟩
 · exact⟨ps++[q],a,by simp;omega,by simp;omega,by simp⟩
end Go.AM
set_option maxRecDepth 20000
namespace Go.AM
set_option maxHeartbeats 1000000 in
theorem v8 (e:Edge) (h0:e.line≠[]) (hl:e.line.length< 1000000): ∃e':Edge,e'.line.length=e.line.length∧e'.id=e.id∧(e'.left=e.right∧e'.right=e.left)∧Ev E 131 [e.v] ⟨.agg [vi e'.id,.own 2 (e'.line.map Pt.v),vi e'.left,vi e'.right],[]⟩:=by
 have key:=Ev.cQ (R:=fun r=> ∃e':Edge,e'.line.length=e.line.length∧e'.id=e.id∧(e'.left=e.right∧e'.right=e.left)∧r=⟨.agg [vi e'.id,.own 2 (e'.line.map Pt.v),vi e'.left,vi e'.right],[]⟩) IE (IF [e.v]) rfl ?_
 · obtain⟨res,h1,e',h2,h3,h4,rfl⟩:=key
   exact⟨e',h2,h3,h4,h1⟩
 have hp:0 <e.line.length:=List.length_pos_iff.2 h0
 have e1:IntKind.i64.wrap ((e.line.length:Int) - 1)=(e.line.length:Int) - 1:=wrap64 (by omega) (by omega)
 (conv=>whnf);repeat' ((first| intro g| refine st ?_| (refine aH.bR ?_;intro s) | (first| refine b1 ?_ ?_| refine b2 ?_ ?_| refine Br.mk ?_ ?_) <;>intro hc| exact rfl) <;>conv=>whnf)
 rename_i g1 g2
 refine ba.by (fun ((j,ps,og):Nat×List Pt×Option Nat)=> ⟨[(1,.ptr 32 g1 0 0),(2,.ptr 48 g2 0 0),(3,.ptr 64 g 0 0),(4,vi ((j:Int) - 1))],
     match og with
     | none=> [(32,⟨g1,4,false,false,some [e.v]⟩),(48,⟨g2,4,false,false,some [.agg [vi 0,.lit 2 [],vi 0,vi 0]]⟩),(64,⟨g,4,false,false,some [.agg [vi e.id,.nils,vi e.right,vi e.left]]⟩)]
     | some g5=> [(32,⟨g1,4,false,false,some [e.v]⟩),(48,⟨g2,4,false,false,some [.agg [vi 0,.lit 2 [],vi 0,vi 0]]⟩),(64,⟨g,4,false,false,some [.agg [vi e.id,.sl 67 g5 0 ps.length,vi e.right,vi e.left]]⟩),(67,⟨g5,2,true,false,some (ps.map Pt.v)⟩)]⟩)
   (fun (j,ps,og)=>j+ps.length=e.line.length∧(og=none→ps=[])) (fun (j,_)=>j) (e.line.length,[],none) ?_ ⟨by simp,by simp⟩ ?_
 · (refine⟨?_,?_⟩ <;>repeat' (first| exact True.intro| refine ai ?_| refine And.intro ?_ ?_))
 rintro⟨j,ps,og⟩ ⟨hj,gC⟩
 try dsimp only at hj gC
 cases j with
 | zero=>
   cases og with
   | none=>have:=gC rfl;subst this;simp at hj;omega
   | some g5=>
     (conv=>whnf);repeat' ((first| intro g| refine st ?_| (refine aH.bR ?_;intro s) | (first| refine b1 ?_ ?_| refine b2 ?_ ?_| refine Br.mk ?_ ?_) <;>intro hc| exact rfl) <;>conv=>whnf)
     exact⟨⟨e.id,ps,e.right,e.left⟩,by simpa using hj,rfl,⟨rfl,rfl⟩,rfl⟩
 | succ j=>
   obtain⟨x,hx⟩: ∃x,e.line[j]? =some x:=⟨_,aL (by omega)⟩
   have II: ((j+1:Nat):Int) - 1=(j:Int):=by omega
   cases og with
   | none=>
     have:=gC rfl
     subst this
     (conv=>whnf);repeat' ((first| intro g| refine aH.mk _ (aC hx II) ?_| refine st ?_| (refine aH.bR ?_;intro s) | (first| refine b1 ?_ ?_| refine b2 ?_ ?_| refine Br.mk ?_ ?_) <;>intro hc| exact rfl) <;>conv=>whnf)
     refine bc.mk (j,[x],some g) (by first| omega| (dsimp only;omega)) ⟨by simp at hj ⊢;omega,by simp⟩ (by(refine⟨?_,?_⟩ <;>repeat' (first| exact True.intro| refine ai ?_| refine And.intro ?_ ?_)))
   | some g5=>
     (conv=>whnf);repeat' ((first| intro g| refine aH.mk _ (aC hx II) ?_| refine st ?_| (refine aH.bR ?_;intro s) | (first| refine b1 ?_ ?_| refine b2 ?_ ?_| refine Br.mk ?_ ?_) <;>intro hc| exact rfl) <;>conv=>whnf)
     refine bc.mk (j,ps++[x],some g) (by first| omega| (dsimp only;omega)) ⟨by simp at hj ⊢;omega,by simp⟩ (by(refine⟨?_,?_⟩ <;>repeat' (first| exact True.intro| refine ai ?_| refine And.intro ?_ ?_)))
def iw (ps:List Pt):Prop:=2≤ps.length∧ps.length≤5
def hG (es:List Edge) (n:Nat):Prop:=es.length≤n∧(∀e ∈ es,iw e.line)∧ ∀ (i:Nat) (e:Edge),es[i]? =some e→e.id=(i:Int)+1
theorem hG.snoc {es:List Edge} {n:Nat} {e:Edge} (h:hG es n) (k:iw e.line) (RX:e.id=(es.length:Int)+1):hG (es++[e]) (n+1):=
 ⟨by have:=h.1;simp;omega,fun x hx=>by
   rcases List.mem_append.1 hx with hx| hx
   · exact h.2.1 x hx
   · have:x=e:=by simpa using hx
     subst this;exact k,fun i x hx=>by
   by_cases hi:i<es.length
   · rw[List.getElem?_append_left hi] at hx;exact h.2.2 i x hx
   · rw[List.getElem?_append_right (by omega)] at hx
     have h0:i - es.length=0:=by
      have:=(List.getElem?_eq_some_iff.1 hx).1
      simp at this;omega
     rw[h0] at hx;simp at hx;subst hx;rw[RX];omega⟩
def Has (es:List Edge):Prop:= ∃e ∈ es,e.left=21∨e.right=21
theorem Has.snoc {es:List Edge} {e:Edge} (h:Has es):Has (es++[e]):=by
 obtain⟨x,hx,hs⟩:=h
 exact⟨x,by simp[hx],hs⟩
theorem Has.last {es:List Edge} {e:Edge} (h:e.left=21∨e.right=21):Has (es++[e]):=⟨e,by simp,h⟩
theorem hG.mono {es:List Edge} {n m:Nat} (h:hG es n) (k:n≤m):hG es m:=⟨Nat.le_trans h.1 k,h.2⟩
set_option maxHeartbeats 1000000 in
theorem AB {l:List Int} (hl:l.length< 9223372036854775808) {es:List Edge} {n:Nat} (he:hG es n) (hn:n< 1000) {ps:List Pt} (ve:iw ps) (left right:Int) (a0:Nat):
   ∃ (es':List Edge) (a b:Nat),(hG es' (n+1)∧(Has es∨(left=21∧right=0)→Has es'))∧Ev E 113 [.msl 4 (es.map Edge.v) 0 es.length,iP ps,vi left,vi right,.mptr 2 [de l a0] 0 0] ⟨.sl 0 b 0 es'.length,[(b,es'.map Edge.v),(0,[de l a])]⟩:=by
 have key:=Ev.cQ (R:=fun r=> ∃ (es':List Edge) (a b:Nat),(hG es' (n+1)∧(Has es∨(left=21∧right=0)→Has es'))∧r=⟨.sl 0 b 0 es'.length,[(b,es'.map Edge.v),(0,[de l a])]⟩) Ob (Oc [.msl 4 (es.map Edge.v) 0 es.length,iP ps,vi left,vi right,.mptr 2 [de l a0] 0 0]) rfl ?_
 · obtain⟨res,h1,es',a,b,h2,rfl⟩:=key
   exact⟨es',a,b,h2,h1⟩
 have sm:=he.1
 have n2:=cg hl 2 (a:=a0) (by omega) (by omega)
 have E7:IntKind.i64.wrap ((es.length:Int)+1)=(es.length:Int)+1:=wrap64 (by omega) (by omega)
 obtain⟨e',HD,hti,LI,PA⟩:=v8 ⟨IntKind.i64.wrap ((es.length:Int)+1),ps,left,right⟩ (by intro h;dsimp only at h;subst h;have:=ve.1;simp at this) (by dsimp only;have:=ve.2;omega)
 (conv=>whnf);repeat' ((first| intro g| refine ag.mk _ (n2) ?_| refine ag.mk _ (PA) ?_| refine st ?_| (refine aH.bR ?_;intro s) | (first| refine b1 ?_ ?_| refine b2 ?_ ?_| refine Br.mk ?_ ?_) <;>intro hc| exact rfl) <;>conv=>whnf)
 · exact⟨es,a0,0,⟨he.mono (by omega),fun h=>by rcases h with h| ⟨q1,q2⟩;exact h;exfalso;omega⟩,rfl⟩
 · refine⟨es++[e'],b8 l a0,g,⟨he.snoc ?_ (hti.trans E7),fun h=>h.elim Has.snoc fun h=>Has.last (.inr (LI.2.trans h.1))⟩,?_⟩
   · unfold iw at*;dsimp only at HD;omega
   · simp only[List.map_append,List.map_cons,List.map_nil,List.length_append,List.length_cons,List.length_nil,List.length_map];rfl
 · refine⟨es++[⟨IntKind.i64.wrap ((es.length:Int)+1),ps,left,right⟩],b8 l a0,g,⟨he.snoc ve E7,fun h=>h.elim Has.snoc fun h=>Has.last (.inl h.1)⟩,?_⟩
   simp only[List.map_append,List.map_cons,List.map_nil,List.length_append,List.length_cons,List.length_nil,List.length_map];rfl
end Go.AM
set_option maxRecDepth 20000
namespace Go.AM
theorem tw {cs:List Int} (dk:cs.length=6) {w h:Nat} (hw:w≤3) (hh:h≤2) (i j:Int): ∃r:Int,((i=0∧j=0→1≤w→1≤h→cs[0]? =some r)∧(j< 0→r=0))∧Ev E 116 [.agg (cs.map vi),aF w,aF h,vi i,vi j] ⟨vi r,[]⟩:=by
 have key:=Ev.cQ (R:=fun r=> ∃x:Int,((i=0∧j=0→1≤w→1≤h→cs[0]? =some x)∧(j< 0→x=0))∧r=⟨vi x,[]⟩) Oj (Ol [.agg (cs.map vi),aF w,aF h,vi i,vi j]) rfl ?_
 · obtain⟨res,h1,x,h2,rfl⟩:=key
   exact⟨x,h2,h1⟩
 match cs,dk with
 | [x0,x1,x2,x3,x4,x5],_=>
   by_cases rL:0≤i∧0≤j∧i<w∧j<h
   · rcases(by omega:i=0∨i=1∨i=2) with rfl| rfl| rfl<;>rcases(by omega:j=0∨j=1) with rfl| rfl
     all_goals
      (conv=>whnf);repeat' ((first| intro g| refine st ?_| (refine aH.bR ?_;intro s) | (first| refine b1 ?_ ?_| refine b2 ?_ ?_| refine Br.mk ?_ ?_) <;>intro hc| exact rfl) <;>conv=>whnf)
      all_goals exact⟨_,⟨fun q=>by first| (exfalso;omega) | exact fun _ _=>rfl,fun q=>by exfalso;omega⟩,rfl⟩
   · (conv=>whnf);repeat' ((first| intro g| refine st ?_| (refine aH.bR ?_;intro s) | (first| refine b1 ?_ ?_| refine b2 ?_ ?_| refine Br.mk ?_ ?_) <;>intro hc| exact rfl) <;>conv=>whnf)
     all_goals first| (exfalso;omega) | exact⟨_,⟨fun q q1 q2=>by exfalso;omega,fun q=>rfl⟩,rfl⟩
end Go.AM
