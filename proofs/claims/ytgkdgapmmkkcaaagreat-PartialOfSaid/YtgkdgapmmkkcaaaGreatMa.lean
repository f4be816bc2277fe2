/-
  Texts of the proof, joined by program: SMadeB, SMadeC, SMadeD. Own work.
-/
import Derived.Test.YtgkdgapmmkkcaaaGreatData
set_option linter.unusedSimpArgs false
set_option linter.unusedVariables false
set_option maxRecDepth 20000
namespace Go.AM
theorem Cy (a b:Pt):Ev E 161 [a.v,b.v] ⟨(Pt.mk (Ei (a.x - b.x)) (Ei (a.y - b.y))).v,[]⟩:=by
 refine Ev.cY PA (PB _) rfl ?_
 (conv=>whnf);repeat' ((first| intro g| refine st ?_| (refine aL.bK ?_;intro s) | (first| refine b1 ?_ ?_| refine b2 ?_ ?_| refine Br.mk ?_ ?_) <;>intro hc| exact rfl) <;>conv=>whnf)
theorem rU {l:List Int} (hl:l.length< 9223372036854775808) {i j:Nat} (hi:i< 10) (hj:j< 10): ∃p:Pt,Ev E 115 [.lit 1 (l.map vi),aT i,aT j] ⟨p.v,[]⟩:=by
 have key:=Ev.cQ (R:=fun r=> ∃p:Pt,r=⟨p.v,[]⟩) O6 (O7 [.lit 1 (l.map vi),aT i,aT j]) rfl ?_
 · obtain⟨res,h1,p,rfl⟩:=key
   exact⟨p,h1⟩
 have w0:IntKind.i64.wrap (4*(j:Int))=((4*j:Nat):Int):=(wrap64 (by omega) (by omega)).trans (by omega)
 have w1:IntKind.i64.wrap (IntKind.i64.wrap (4*(j:Int))+(i:Int))=((4*j+i:Nat):Int):=by rw[w0];exact(wrap64 (by omega) (by omega)).trans (by omega)
 have w2:IntKind.i64.wrap (2*IntKind.i64.wrap (IntKind.i64.wrap (4*(j:Int))+(i:Int)))=((2*(4*j+i):Nat):Int):=by rw[w1];exact(wrap64 (by omega) (by omega)).trans (by omega)
 have w3:IntKind.i64.wrap (IntKind.i64.wrap (2*IntKind.i64.wrap (IntKind.i64.wrap (4*(j:Int))+(i:Int)))+1)=((2*(4*j+i)+1:Nat):Int):=by rw[w2];exact(wrap64 (by omega) (by omega)).trans (by omega)
 by_cases bA:2*(4*j+i)+1 <l.length
 · have hx:=aJ (l:=l) (i:=2*(4*j+i)) (by omega)
   have hy:=aJ (l:=l) (i:=2*(4*j+i)+1) (by omega)
   (conv=>whnf);repeat' ((first| intro g| refine aL.mk _ (au hx w2) ?_| refine aL.mk _ (au hy w3) ?_| refine ag.mk _ (yx (by decide)) ?_| refine st ?_| (refine aL.bK ?_;intro s) | (first| refine b1 ?_ ?_| refine b2 ?_ ?_| refine Br.mk ?_ ?_) <;>intro hc| exact rfl) <;>conv=>whnf)
   all_goals exact⟨⟨_,_⟩,rfl⟩
 · (conv=>whnf);repeat' ((first| intro g| refine st ?_| (refine aL.bK ?_;intro s) | (first| refine b1 ?_ ?_| refine b2 ?_ ?_| refine Br.mk ?_ ?_) <;>intro hc| exact rfl) <;>conv=>whnf)
   all_goals exact⟨⟨_,_⟩,rfl⟩
theorem uC {l:List Int} (hl:l.length< 9223372036854775808) (p q:Pt) (a0:Nat): ∃ (ps:List Pt) (a:Nat),2≤ps.length∧ps.length≤5∧Ev E 114 [p.v,q.v,.mptr 2 [cT l a0] 0 0] ⟨.own 2 (ps.map Pt.v),[(0,[cT l a])]⟩:=by
 have key:=Ev.cQ (R:=fun r=> ∃ (ps:List Pt) (a:Nat),2≤ps.length∧ps.length≤5∧r=⟨.own 2 (ps.map Pt.v),[(0,[cT l a])]⟩) O4 (O5 [p.v,q.v,.mptr 2 [cT l a0] 0 0]) rfl ?_
 · obtain⟨res,h1,ps,a,h2,h3,rfl⟩:=key
   exact⟨ps,a,h2,h3,h1⟩
 have hn: ∀n a,0 <n→n< 1000→Ev E 85 [.mptr 2 [cT l a] 0 0,aT n] ⟨aT (eI l a n),[(0,[cT l (bW l a)])]⟩:=fun n a h h2=>b0 hl n h (by omega)
 have hb:=fP (l:=l) (a:=a0) (n:=4) (by omega) (by omega)
 have Cz:=Cy q p
 generalize hm:eI l a0 4=many at hb
 have n4:=hn 4 a0 (by omega) (by omega)
 rw[hm] at n4
 (conv=>whnf);repeat' ((first| intro g| refine ag.mk _ (n4) ?_| refine ag.mk _ (Cz) ?_| refine st ?_| (refine aL.bK ?_;intro s) | (first| refine b1 ?_ ?_| refine b2 ?_ ?_| refine Br.mk ?_ ?_) <;>intro hc| exact rfl) <;>conv=>whnf)
 rename_i g3 g4 _ g7
 generalize hu:Pt.mk (Ei (q.x - p.x)) (Ei (q.y - p.y))=u
 refine ba.by (fun ((k,ps,a,g7):Nat×List Pt×Nat×Nat)=> ⟨[(2,.ptr 2 0 0 0),(3,.ptr 64 g3 0 0),(4,.ptr 80 g4 0 0),(7,.sl 129 g7 0 ps.length),(8,aT many),(9,.ptr 160 g 0 0),(10,aT (k+1))],
    [(2,⟨0,2,false,false,some [cT l a]⟩),(64,⟨g3,2,false,false,some [p.v]⟩),(80,⟨g4,2,false,false,some [q.v]⟩),(129,⟨g7,2,true,false,some (ps.map Pt.v)⟩),(160,⟨g,2,false,false,some [u.v]⟩)]⟩)
   (fun (k,ps,_,_)=>k≤many∧ps.length=k+1) (fun (k,_)=>many - k) (0,[p],bW l a0,g7) (by subst hu; (refine⟨?_,?_⟩ <;>repeat' (first| exact True.intro| refine ai ?_| refine And.intro ?_ ?_))) ⟨by simp,by simp⟩ ?_
 rintro⟨k,ps,a,g7⟩ ⟨hk,tK⟩
 try dsimp only at hk tK
 have Yg:=hn 21 a (by omega) (by omega)
 have e1:IntKind.i64.wrap ((many:Int)+1)=((many+1:Nat):Int):=(wrap64 (by omega) (by omega)).trans (by omega)
 have e2: (many:Int).tdiv 2=((many / 2:Nat):Int):=rfl
 have e3:IntKind.i64.wrap ((many:Int).tdiv 2)=((many / 2:Nat):Int):=by rw[e2];exact(wrap64 (by omega) (by omega)).trans (by omega)
 have e4:IntKind.i64.wrap (1+IntKind.i64.wrap ((many:Int).tdiv 2))=((1+many / 2:Nat):Int):=by rw[e3];exact(wrap64 (by omega) (by omega)).trans (by omega)
 (conv=>whnf);repeat' ((first| intro g| refine ag.mk _ (Yg) ?_| refine st ?_| (refine aL.bK ?_;intro s) | (first| refine b1 ?_ ?_| refine b2 ?_ ?_| refine Br.mk ?_ ?_) <;>intro hc| exact rfl) <;>conv=>whnf)
 · refine bI.mk (k+1,ps++[⟨?x,?y⟩],?a,?g) ?h1 ?h2 ?h3
   case h3=> (refine⟨?_,?_⟩ <;>repeat' (first| exact True.intro| refine ai ?_| refine And.intro ?_ ?_))
   case h1=> (first| omega| (dsimp only;omega))
   case h2=>exact⟨by omega,by simp;omega⟩
 · refine bI.mk (k+1,ps++[⟨?x2,?y2⟩],?a2,?g2) ?k1 ?k2 ?k3
   case k3=> (refine⟨?_,?_⟩ <;>repeat' (first| exact True.intro| refine ai ?_| refine And.intro ?_ ?_))
   case k1=> (first| omega| (dsimp only;omega))
   case k2=>exact⟨by omega,by simp;omega⟩
 · exact⟨ps++[q],a,by simp;omega,by simp;omega,by simp⟩
end Go.AM
set_option maxRecDepth 20000
namespace Go.AM
set_option maxHeartbeats 1000000 in
theorem uD (e:Edge) (h0:e.line≠[]) (hl:e.line.length< 1000000): ∃e':Edge,e'.line.length=e.line.length∧Ev E 131 [e.v] ⟨.agg [vi e'.id,.own 2 (e'.line.map Pt.v),vi e'.left,vi e'.right],[]⟩:=by
 have key:=Ev.cQ (R:=fun r=> ∃e':Edge,e'.line.length=e.line.length∧r=⟨.agg [vi e'.id,.own 2 (e'.line.map Pt.v),vi e'.left,vi e'.right],[]⟩) Gw (Gx [e.v]) rfl ?_
 · obtain⟨res,h1,e',h2,rfl⟩:=key
   exact⟨e',h2,h1⟩
 have hp:0 <e.line.length:=List.length_pos_iff.2 h0
 have e1:IntKind.i64.wrap ((e.line.length:Int) - 1)=(e.line.length:Int) - 1:=wrap64 (by omega) (by omega)
 (conv=>whnf);repeat' ((first| intro g| refine st ?_| (refine aL.bK ?_;intro s) | (first| refine b1 ?_ ?_| refine b2 ?_ ?_| refine Br.mk ?_ ?_) <;>intro hc| exact rfl) <;>conv=>whnf)
 rename_i g1 g2
 refine ba.by (fun ((j,ps,og):Nat×List Pt×Option Nat)=> ⟨[(1,.ptr 32 g1 0 0),(2,.ptr 48 g2 0 0),(3,.ptr 64 g 0 0),(4,vi ((j:Int) - 1))],
     match og with
     | none=> [(32,⟨g1,4,false,false,some [e.v]⟩),(48,⟨g2,4,false,false,some [.agg [vi 0,.lit 2 [],vi 0,vi 0]]⟩),(64,⟨g,4,false,false,some [.agg [vi e.id,.nils,vi e.right,vi e.left]]⟩)]
     | some g5=> [(32,⟨g1,4,false,false,some [e.v]⟩),(48,⟨g2,4,false,false,some [.agg [vi 0,.lit 2 [],vi 0,vi 0]]⟩),(64,⟨g,4,false,false,some [.agg [vi e.id,.sl 67 g5 0 ps.length,vi e.right,vi e.left]]⟩),(67,⟨g5,2,true,false,some (ps.map Pt.v)⟩)]⟩)
   (fun (j,ps,og)=>j+ps.length=e.line.length∧(og=none→ps=[])) (fun (j,_)=>j) (e.line.length,[],none) ?_ ⟨by simp,by simp⟩ ?_
 · (refine⟨?_,?_⟩ <;>repeat' (first| exact True.intro| refine ai ?_| refine And.intro ?_ ?_))
 rintro⟨j,ps,og⟩ ⟨hj,Ky⟩
 try dsimp only at hj Ky
 cases j with
 | zero=>
   cases og with
   | none=>have:=Ky rfl;subst this;simp at hj;omega
   | some g5=>
     (conv=>whnf);repeat' ((first| intro g| refine st ?_| (refine aL.bK ?_;intro s) | (first| refine b1 ?_ ?_| refine b2 ?_ ?_| refine Br.mk ?_ ?_) <;>intro hc| exact rfl) <;>conv=>whnf)
     exact⟨⟨e.id,ps,e.right,e.left⟩,by simpa using hj,rfl⟩
 | succ j=>
   obtain⟨x,hx⟩: ∃x,e.line[j]? =some x:=⟨_,aJ (by omega)⟩
   have Gy: ((j+1:Nat):Int) - 1=(j:Int):=by omega
   cases og with
   | none=>
     have:=Ky rfl
     subst this
     (conv=>whnf);repeat' ((first| intro g| refine aL.mk _ (au hx Gy) ?_| refine st ?_| (refine aL.bK ?_;intro s) | (first| refine b1 ?_ ?_| refine b2 ?_ ?_| refine Br.mk ?_ ?_) <;>intro hc| exact rfl) <;>conv=>whnf)
     refine bI.mk (j,[x],some g) (by first| omega| (dsimp only;omega)) ⟨by simp at hj ⊢;omega,by simp⟩ (by(refine⟨?_,?_⟩ <;>repeat' (first| exact True.intro| refine ai ?_| refine And.intro ?_ ?_)))
   | some g5=>
     (conv=>whnf);repeat' ((first| intro g| refine aL.mk _ (au hx Gy) ?_| refine st ?_| (refine aL.bK ?_;intro s) | (first| refine b1 ?_ ?_| refine b2 ?_ ?_| refine Br.mk ?_ ?_) <;>intro hc| exact rfl) <;>conv=>whnf)
     refine bI.mk (j,ps++[x],some g) (by first| omega| (dsimp only;omega)) ⟨by simp at hj ⊢;omega,by simp⟩ (by(refine⟨?_,?_⟩ <;>repeat' (first| exact True.intro| refine ai ?_| refine And.intro ?_ ?_)))
def gR (ps:List Pt):Prop:=2≤ps.length∧ps.length≤5
def gz (es:List Edge) (n:Nat):Prop:=es.length≤n∧ ∀e ∈ es,gR e.line
theorem gz.snoc {es:List Edge} {n:Nat} {e:Edge} (h:gz es n) (k:gR e.line):gz (es++[e]) (n+1):=
 ⟨by have:=h.1;simp;omega,fun x hx=>by
   rcases List.mem_append.1 hx with hx| hx
   · exact h.2 x hx
   · have:x=e:=by simpa using hx
     subst this;exact k⟩
theorem gz.mono {es:List Edge} {n m:Nat} (h:gz es n) (k:n≤m):gz es m:=⟨Nat.le_trans h.1 k,h.2⟩
set_option maxHeartbeats 1000000 in
theorem yA {l:List Int} (hl:l.length< 9223372036854775808) {es:List Edge} {n:Nat} (he:gz es n) (hn:n< 1000) {ps:List Pt} (tK:gR ps) (left right:Int) (a0:Nat):
   ∃ (es':List Edge) (a b:Nat),gz es' (n+1)∧Ev E 113 [.msl 4 (es.map Edge.v) 0 es.length,wB ps,vi left,vi right,.mptr 2 [cT l a0] 0 0] ⟨.sl 0 b 0 es'.length,[(b,es'.map Edge.v),(0,[cT l a])]⟩:=by
 have key:=Ev.cQ (R:=fun r=> ∃ (es':List Edge) (a b:Nat),gz es' (n+1)∧r=⟨.sl 0 b 0 es'.length,[(b,es'.map Edge.v),(0,[cT l a])]⟩) OZ (O3 [.msl 4 (es.map Edge.v) 0 es.length,wB ps,vi left,vi right,.mptr 2 [cT l a0] 0 0]) rfl ?_
 · obtain⟨res,h1,es',a,b,h2,rfl⟩:=key
   exact⟨es',a,b,h2,h1⟩
 have qO:=he.1
 have n2:=b0 hl 2 (a:=a0) (by omega) (by omega)
 have CA:IntKind.i64.wrap ((es.length:Int)+1)=(es.length:Int)+1:=wrap64 (by omega) (by omega)
 obtain⟨e',Fm,Qd⟩:=uD ⟨IntKind.i64.wrap ((es.length:Int)+1),ps,left,right⟩ (by intro h;dsimp only at h;subst h;have:=tK.1;simp at this) (by dsimp only;have:=tK.2;omega)
 (conv=>whnf);repeat' ((first| intro g| refine ag.mk _ (n2) ?_| refine ag.mk _ (Qd) ?_| refine st ?_| (refine aL.bK ?_;intro s) | (first| refine b1 ?_ ?_| refine b2 ?_ ?_| refine Br.mk ?_ ?_) <;>intro hc| exact rfl) <;>conv=>whnf)
 · exact⟨es,a0,0,he.mono (by omega),rfl⟩
 · refine⟨es++[e'],bW l a0,g,he.snoc ?_,?_⟩
   · unfold gR at*;dsimp only at Fm;omega
   · simp only[List.map_append,List.map_cons,List.map_nil,List.length_append,List.length_cons,List.length_nil,List.length_map];rfl
 · refine⟨es++[⟨IntKind.i64.wrap ((es.length:Int)+1),ps,left,right⟩],bW l a0,g,he.snoc tK,?_⟩
   simp only[List.map_append,List.map_cons,List.map_nil,List.length_append,List.length_cons,List.length_nil,List.length_map];rfl
end Go.AM
set_option maxRecDepth 20000
namespace Go.AM
theorem rV {cs:List Int} (c7:cs.length=6) {w h:Nat} (hw:w≤3) (hh:h≤2) (i j:Int): ∃r:Int,Ev E 116 [.agg (cs.map vi),aT w,aT h,vi i,vi j] ⟨vi r,[]⟩:=by
 have key:=Ev.cQ (R:=fun r=> ∃x:Int,r=⟨vi x,[]⟩) O8 (O9 [.agg (cs.map vi),aT w,aT h,vi i,vi j]) rfl ?_
 · obtain⟨res,h1,x,rfl⟩:=key
   exact⟨x,h1⟩
 match cs,c7 with
 | [x0,x1,x2,x3,x4,x5],_=>
   by_cases qj:0≤i∧0≤j∧i<w∧j<h
   · rcases(by omega:i=0∨i=1∨i=2) with rfl| rfl| rfl<;>rcases(by omega:j=0∨j=1) with rfl| rfl
     all_goals
      (conv=>whnf);repeat' ((first| intro g| refine st ?_| (refine aL.bK ?_;intro s) | (first| refine b1 ?_ ?_| refine b2 ?_ ?_| refine Br.mk ?_ ?_) <;>intro hc| exact rfl) <;>conv=>whnf)
      all_goals exact⟨_,rfl⟩
   · (conv=>whnf);repeat' ((first| intro g| refine st ?_| (refine aL.bK ?_;intro s) | (first| refine b1 ?_ ?_| refine b2 ?_ ?_| refine Br.mk ?_ ?_) <;>intro hc| exact rfl) <;>conv=>whnf)
     all_goals first| exact⟨_,rfl⟩ | (exfalso;omega)
theorem rW {k:Nat} {n:Int} (A B:List Int) (h:A.length+B.length≤k): ∃l':List Int,l'.length≤k+1∧
  ((⟨V.own 1 ([]++A.map vi++[vi n]++B.map vi),[]⟩:fh)=⟨.lit 1 (l'.map vi),[]⟩∨(⟨V.own 1 ([]++A.map vi++[vi n]++B.map vi),[]⟩:fh)=⟨.own 1 (l'.map vi),[]⟩):=
 ⟨A++[n]++B,by simp;omega,.inr (by simp)⟩
theorem Kz {l:List Int} (hl:l.length< 1000000) (n:Int): ∃l':List Int,l'.length≤l.length+1∧(Ev E 162 [.lit 1 (l.map vi),vi n] ⟨.lit 1 (l'.map vi),[]⟩∨Ev E 162 [.lit 1 (l.map vi),vi n] ⟨.own 1 (l'.map vi),[]⟩):=by
 have key:=Ev.cQ (R:=fun r=> ∃l':List Int,l'.length≤l.length+1∧(r=⟨.lit 1 (l'.map vi),[]⟩∨r=⟨.own 1 (l'.map vi),[]⟩)) PC (PD [.lit 1 (l.map vi),vi n]) rfl ?_
 · obtain⟨res,h1,l',h2,rfl| rfl⟩:=key
   · exact⟨l',h2,.inl h1⟩
   · exact⟨l',h2,.inr h1⟩
 (conv=>whnf);repeat' ((first| intro g| refine st ?_| (refine aL.bK ?_;intro s) | (first| refine b1 ?_ ?_| refine b2 ?_ ?_| refine Br.mk ?_ ?_) <;>intro hc| exact rfl) <;>conv=>whnf)
 refine ba.by (fun (j:Nat)=> ⟨[(0,.lit 1 (l.map vi)),(1,vi n),(5,aT j)],[]⟩) (fun j=>j≤l.length) (fun j=>j) l.length ?_ (Nat.le_refl _) ?_
 · (refine⟨?_,?_⟩ <;>repeat' (first| exact True.intro| refine ai ?_| refine And.intro ?_ ?_))
 intro j hj
 by_cases bA:j<l.length
 · obtain⟨x,hx⟩: ∃x,l[j]? =some x:=⟨_,aJ bA⟩
   cases j with
   | zero=>
     (conv=>whnf);repeat' ((first| intro g| refine aL.mk _ (au hx rfl) ?_| refine aL.mk _ (ky _ _ _ _) ?_| refine st ?_| (refine aL.bK ?_;intro s) | (first| refine b1 ?_ ?_| refine b2 ?_ ?_| refine Br.mk ?_ ?_) <;>intro hc| exact rfl) <;>conv=>whnf)
     all_goals first
      | exact⟨l,by omega,.inl rfl⟩
      | exact bI.mk j (by first| omega| (dsimp only;omega)) (by omega) (by(refine⟨?_,?_⟩ <;>repeat' (first| exact True.intro| refine ai ?_| refine And.intro ?_ ?_)))
      | exact rW _ _ (by simp only[List.length_take,List.length_drop,List.length_map];omega)
      | trace_state
   | succ j=>
     obtain⟨y,hy⟩: ∃y,l[j]? =some y:=⟨_,aJ (by omega)⟩
     have Gy:IntKind.i64.wrap (((j+1:Nat):Int) - 1)=(j:Int):=(wrap64 (by omega) (by omega)).trans (by omega)
     (conv=>whnf);repeat' ((first| intro g| refine aL.mk _ (au hx rfl) ?_| refine aL.mk _ (au hy Gy) ?_| refine aL.mk _ (ky _ _ _ _) ?_| refine st ?_| (refine aL.bK ?_;intro s) | (first| refine b1 ?_ ?_| refine b2 ?_ ?_| refine Br.mk ?_ ?_) <;>intro hc| exact rfl) <;>conv=>whnf)
     all_goals first
      | exact⟨l,by omega,.inl rfl⟩
      | exact bI.mk j (by first| omega| (dsimp only;omega)) (by omega) (by(refine⟨?_,?_⟩ <;>repeat' (first| exact True.intro| refine ai ?_| refine And.intro ?_ ?_)))
      | exact rW _ _ (by simp only[List.length_take,List.length_drop,List.length_map];omega)
      | trace_state
 · cases j with
   | zero=>
     (conv=>whnf);repeat' ((first| intro g| refine aL.mk _ (ky _ _ _ _) ?_| refine st ?_| (refine aL.bK ?_;intro s) | (first| refine b1 ?_ ?_| refine b2 ?_ ?_| refine Br.mk ?_ ?_) <;>intro hc| exact rfl) <;>conv=>whnf)
     all_goals first
      | exact⟨l,by omega,.inl rfl⟩
      | exact bI.mk j (by first| omega| (dsimp only;omega)) (by omega) (by(refine⟨?_,?_⟩ <;>repeat' (first| exact True.intro| refine ai ?_| refine And.intro ?_ ?_)))
      | exact rW _ _ (by simp only[List.length_take,List.length_drop,List.length_map];omega)
      | trace_state
   | succ j=>
     obtain⟨y,hy⟩: ∃y,l[j]? =some y:=⟨_,aJ (by omega)⟩
     have Gy:IntKind.i64.wrap (((j+1:Nat):Int) - 1)=(j:Int):=(wrap64 (by omega) (by omega)).trans (by omega)
     (conv=>whnf);repeat' ((first| intro g| refine aL.mk _ (au hy Gy) ?_| refine aL.mk _ (ky _ _ _ _) ?_| refine st ?_| (refine aL.bK ?_;intro s) | (first| refine b1 ?_ ?_| refine b2 ?_ ?_| refine Br.mk ?_ ?_) <;>intro hc| exact rfl) <;>conv=>whnf)
     all_goals first
      | exact⟨l,by omega,.inl rfl⟩
      | exact bI.mk j (by first| omega| (dsimp only;omega)) (by omega) (by(refine⟨?_,?_⟩ <;>repeat' (first| exact True.intro| refine ai ?_| refine And.intro ?_ ?_)))
      | exact rW _ _ (by simp only[List.length_take,List.length_drop,List.length_map];omega)
      | trace_state
end Go.AM
