/-
  Texts of the proof, joined by program: SMadeB, SMadeC, SMadeD. Own work.
-/
import Derived.Test.YtkdfnbahehdhmaaGreatData
set_option linter.unusedSimpArgs false
set_option linter.unusedVariables false
set_option maxRecDepth 20000
namespace Go.AM
theorem CL (a b:Pt):Ev E 161 [a.v,b.v] ⟨(Pt.mk (fj (a.x - b.x)) (fj (a.y - b.y))).v,[]⟩:=by
 refine Ev.bY NX (NY _) rfl ?_
 (conv=>whnf);repeat' ((first| intro g| refine st ?_| (refine bd.bo ?_;intro s) | (first| refine b1 ?_ ?_| refine b2 ?_ ?_| refine Br.mk ?_ ?_) <;>intro hc| exact rfl) <;>conv=>whnf)
def Nd (p:Pt):Prop:=(0≤p.x∧p.x≤2000)∧0≤p.y∧p.y≤2000
def Sm (p:Pt):Prop:=(-20000≤p.x∧p.x≤20000)∧ -20000≤p.y∧p.y≤20000
theorem Nd.sm {p:Pt} (h:Nd p):Sm p:=by unfold Nd at h;unfold Sm;omega
theorem u9 {a M:Int} (b:Int) (h: -M≤a∧a≤M): -M≤a.tdiv b∧a.tdiv b≤M:=by
 have:=Int.natAbs_tdiv_le_natAbs a b
 omega
theorem zY {a:Int} {k:Nat} (hk:k≤3) (h: -2000≤a∧a≤2000): -6000≤a*(k:Int)∧a*(k:Int)≤6000:=by
 rcases(by omega:k=0∨k=1∨k=2∨k=3) with rfl| rfl| rfl| rfl<;>simp<;>omega
theorem Cb {x:Int} (h: -1000000000≤x∧x≤1000000000):IntKind.i64.wrap x=x:=wrap64 (by omega) (by omega)
theorem qS {l:List Int} (hl:l.length< 9223372036854775808) {i j:Nat} (hi:i< 10) (hj:j< 10): ∃p:Pt,Nd p∧Ev E 115 [.lit 1 (l.map vi),aM i,aM j] ⟨p.v,[]⟩:=by
 have key:=Ev.bT (R:=fun r=> ∃p:Pt,Nd p∧r=⟨p.v,[]⟩) OL (OM [.lit 1 (l.map vi),aM i,aM j]) rfl ?_
 · obtain⟨res,h1,p,h2,rfl⟩:=key
   exact⟨p,h2,h1⟩
 have w0:IntKind.i64.wrap (4*(j:Int))=((4*j:Nat):Int):=(wrap64 (by omega) (by omega)).trans (by omega)
 have w1:IntKind.i64.wrap (IntKind.i64.wrap (4*(j:Int))+(i:Int))=((4*j+i:Nat):Int):=by rw[w0];exact(wrap64 (by omega) (by omega)).trans (by omega)
 have w2:IntKind.i64.wrap (2*IntKind.i64.wrap (IntKind.i64.wrap (4*(j:Int))+(i:Int)))=((2*(4*j+i):Nat):Int):=by rw[w1];exact(wrap64 (by omega) (by omega)).trans (by omega)
 have w3:IntKind.i64.wrap (IntKind.i64.wrap (2*IntKind.i64.wrap (IntKind.i64.wrap (4*(j:Int))+(i:Int)))+1)=((2*(4*j+i)+1:Nat):Int):=by rw[w2];exact(wrap64 (by omega) (by omega)).trans (by omega)
 by_cases bJ:2*(4*j+i)+1 <l.length
 · have hx:=bu (l:=l) (i:=2*(4*j+i)) (by omega)
   have hy:=bu (l:=l) (i:=2*(4*j+i)+1) (by omega)
   have mx:=qR (a:=l[2*(4*j+i)]) (n:=21) (by omega) (by omega)
   have my:=qR (a:=l[2*(4*j+i)+1]) (n:=21) (by omega) (by omega)
   generalize l[2*(4*j+i)]=lx at hx mx
   generalize l[2*(4*j+i)+1]=ly at hy my
   (conv=>whnf);repeat' ((first| intro g| refine bd.mk _ (aJ hx w2) ?_| refine bd.mk _ (aJ hy w3) ?_| refine ak.mk _ (CE (by decide)) ?_| refine st ?_| (refine bd.bo ?_;intro s) | (first| refine b1 ?_ ?_| refine b2 ?_ ?_| refine Br.mk ?_ ?_) <;>intro hc| exact rfl) <;>conv=>whnf)
   all_goals
     refine⟨⟨IntKind.i64.wrap (IntKind.i64.wrap (40+IntKind.i64.wrap (100*(i:Int)))+IntKind.i64.wrap (nT lx 21 - 10)),IntKind.i64.wrap (IntKind.i64.wrap (40+IntKind.i64.wrap (100*(j:Int)))+IntKind.i64.wrap (nT ly 21 - 10))⟩,?_,rfl⟩
     unfold Nd
     dsimp only
     change 0≤nT lx 21∧nT lx 21 < 21 at mx
     change 0≤nT ly 21∧nT ly 21 < 21 at my
     simp (disch:=omega) only[wrap64]
     omega
 · (conv=>whnf);repeat' ((first| intro g| refine st ?_| (refine bd.bo ?_;intro s) | (first| refine b1 ?_ ?_| refine b2 ?_ ?_| refine Br.mk ?_ ?_) <;>intro hc| exact rfl) <;>conv=>whnf)
   all_goals
     refine⟨⟨IntKind.i64.wrap (IntKind.i64.wrap (40+IntKind.i64.wrap (100*(i:Int)))+0),IntKind.i64.wrap (IntKind.i64.wrap (40+IntKind.i64.wrap (100*(j:Int)))+0)⟩,?_,rfl⟩
     unfold Nd
     dsimp only
     simp (disch:=omega) only[wrap64]
     omega
theorem tK {l:List Int} (hl:l.length< 9223372036854775808) (p q:Pt) (hp:Nd p) (hq:Nd q) (a0:Nat): ∃ (ps:List Pt) (a:Nat),2≤ps.length∧ps.length≤5∧(∀x ∈ ps,Sm x)∧Ev E 114 [p.v,q.v,.mptr 2 [cz l a0] 0 0] ⟨.own 2 (ps.map Pt.v),[(0,[cz l a])]⟩:=by
 have key:=Ev.bT (R:=fun r=> ∃ (ps:List Pt) (a:Nat),2≤ps.length∧ps.length≤5∧(∀x ∈ ps,Sm x)∧r=⟨.own 2 (ps.map Pt.v),[(0,[cz l a])]⟩) OJ (OK [p.v,q.v,.mptr 2 [cz l a0] 0 0]) rfl ?_
 · obtain⟨res,h1,ps,a,h2,h3,h4,rfl⟩:=key
   exact⟨ps,a,h2,h3,h4,h1⟩
 have hn: ∀n a,0 <n→n< 1000→Ev E 85 [.mptr 2 [cz l a] 0 0,aM n] ⟨aM (dp l a n),[(0,[cz l (bF l a)])]⟩:=fun n a h h2=>bI hl n h (by omega)
 have hb:=dX (l:=l) (a:=a0) (n:=4) (by omega) (by omega)
 have CM:=CL q p
 generalize hm:dp l a0 4=many at hb
 have n4:=hn 4 a0 (by omega) (by omega)
 rw[hm] at n4
 (conv=>whnf);repeat' ((first| intro g| refine ak.mk _ (n4) ?_| refine ak.mk _ (CM) ?_| refine st ?_| (refine bd.bo ?_;intro s) | (first| refine b1 ?_ ?_| refine b2 ?_ ?_| refine Br.mk ?_ ?_) <;>intro hc| exact rfl) <;>conv=>whnf)
 rename_i g3 g4 _ g7
 generalize hu:Pt.mk (fj (q.x - p.x)) (fj (q.y - p.y))=u
 have Xv: (-2000≤u.x∧u.x≤2000)∧ -2000≤u.y∧u.y≤2000:=by
   unfold Nd at hp hq
   subst hu
   dsimp only
   rw[show fj (q.x - p.x)=q.x - p.x from Cb (by omega),show fj (q.y - p.y)=q.y - p.y from Cb (by omega)]
   omega
 refine a9.by (fun ((k,ps,a,g7):Nat×List Pt×Nat×Nat)=> ⟨[(2,.ptr 2 0 0 0),(3,.ptr 64 g3 0 0),(4,.ptr 80 g4 0 0),(7,.sl 129 g7 0 ps.length),(8,aM many),(9,.ptr 160 g 0 0),(10,aM (k+1))],
    [(2,⟨0,2,false,false,some [cz l a]⟩),(64,⟨g3,2,false,false,some [p.v]⟩),(80,⟨g4,2,false,false,some [q.v]⟩),(129,⟨g7,2,true,false,some (ps.map Pt.v)⟩),(160,⟨g,2,false,false,some [u.v]⟩)]⟩)
   (fun (k,ps,_,_)=>k≤many∧ps.length=k+1∧ ∀x ∈ ps,Sm x) (fun (k,_)=>many - k) (0,[p],bF l a0,g7) (by subst hu; (refine⟨?_,?_⟩ <;>repeat' (first| exact True.intro| refine ai ?_| refine And.intro ?_ ?_))) ⟨by simp,by simp,by simpa using hp.sm⟩ ?_
 rintro⟨k,ps,a,g7⟩ ⟨hk,wh,yg⟩
 try dsimp only at hk wh yg
 have YN:=hn 21 a (by omega) (by omega)
 have b21:=dX (l:=l) (a:=a) (n:=21) (by omega) (by omega)
 have hX:k<many→ ∀ (D y:Int),-6000≤y∧y≤6000→Sm ⟨IntKind.i64.wrap (p.x+IntKind.i64.wrap ((IntKind.i64.wrap (u.x*((k+1:Nat):Int))).tdiv D)),IntKind.i64.wrap (IntKind.i64.wrap (p.y+IntKind.i64.wrap ((IntKind.i64.wrap (u.y*((k+1:Nat):Int))).tdiv D))+y)⟩∧Sm ⟨IntKind.i64.wrap (IntKind.i64.wrap (p.x+IntKind.i64.wrap ((IntKind.i64.wrap (u.x*((k+1:Nat):Int))).tdiv D))+y),IntKind.i64.wrap (p.y+IntKind.i64.wrap ((IntKind.i64.wrap (u.y*((k+1:Nat):Int))).tdiv D))⟩:=by
   intro hkm D y hy
   have m1:=zY (k:=k+1) (by omega) Xv.1
   have m2:=zY (k:=k+1) (by omega) Xv.2
   rw[Cb (x:=u.x*_) (by omega),Cb (x:=u.y*_) (by omega)]
   have d1:=u9 D m1
   have d2:=u9 D m2
   unfold Nd at hp
   rw[Cb (x:=(u.x*_).tdiv D) (by omega),Cb (x:=(u.y*_).tdiv D) (by omega)]
   generalize (u.x*((k+1:Nat):Int)).tdiv D=d1 at*
   generalize (u.y*((k+1:Nat):Int)).tdiv D=d2 at*
   rw[Cb (x:=p.x+_) (by omega),Cb (x:=p.y+_) (by omega),Cb (x:=p.y+_+_) (by omega),Cb (x:=p.x+_+_) (by omega)]
   unfold Sm
   dsimp only
   omega
 have hY: ∀D:Int,-6000≤IntKind.i64.wrap ((IntKind.i64.wrap (((dp l a 21:Nat):Int) - 10)).tdiv D)∧IntKind.i64.wrap ((IntKind.i64.wrap (((dp l a 21:Nat):Int) - 10)).tdiv D)≤6000:=by
   intro D
   rw[Cb (x:=_ - 10) (by omega)]
   have d1:=u9 (a:=((dp l a 21:Nat):Int) - 10) (M:=20) D (by omega)
   rw[Cb (by omega)]
   omega
 have e1:IntKind.i64.wrap ((many:Int)+1)=((many+1:Nat):Int):=(wrap64 (by omega) (by omega)).trans (by omega)
 have e2: (many:Int).tdiv 2=((many / 2:Nat):Int):=rfl
 have e3:IntKind.i64.wrap ((many:Int).tdiv 2)=((many / 2:Nat):Int):=by rw[e2];exact(wrap64 (by omega) (by omega)).trans (by omega)
 have e4:IntKind.i64.wrap (1+IntKind.i64.wrap ((many:Int).tdiv 2))=((1+many / 2:Nat):Int):=by rw[e3];exact(wrap64 (by omega) (by omega)).trans (by omega)
 (conv=>whnf);repeat' ((first| intro g| refine ak.mk _ (YN) ?_| refine st ?_| (refine bd.bo ?_;intro s) | (first| refine b1 ?_ ?_| refine b2 ?_ ?_| refine Br.mk ?_ ?_) <;>intro hc| exact rfl) <;>conv=>whnf)
 · refine br.mk (k+1,ps++[⟨?x,?y⟩],?a,?g) ?h1 ?h2 ?h3
   case h3=> (refine⟨?_,?_⟩ <;>repeat' (first| exact True.intro| refine ai ?_| refine And.intro ?_ ?_))
   case h1=> (first| omega| (dsimp only;omega))
   case h2=>exact⟨by omega,by simp;omega,fun x hx=>by
    rcases List.mem_append.1 hx with hx| hx
    · exact yg x hx
    · have oU:=List.mem_singleton.1 hx
      subst oU
      exact(hX (by omega) _ _ (hY _)).1⟩
 · refine br.mk (k+1,ps++[⟨?x2,?y2⟩],?a2,?g2) ?k1 ?k2 ?k3
   case k3=> (refine⟨?_,?_⟩ <;>repeat' (first| exact True.intro| refine ai ?_| refine And.intro ?_ ?_))
   case k1=> (first| omega| (dsimp only;omega))
   case k2=>exact⟨by omega,by simp;omega,fun x hx=>by
    rcases List.mem_append.1 hx with hx| hx
    · exact yg x hx
    · have oU:=List.mem_singleton.1 hx
      subst oU
      exact(hX (by omega) _ _ (hY _)).2⟩
 · exact⟨ps++[q],a,by simp;omega,by simp;omega,fun x hx=>by
    rcases List.mem_append.1 hx with hx| hx
    · exact yg x hx
    · have oU:=List.mem_singleton.1 hx
      subst oU
      exact hq.sm,by simp⟩
end Go.AM
set_option maxRecDepth 20000
namespace Go.AM
set_option maxHeartbeats 1000000 in
theorem AS (e:Edge) (h0:e.line≠[]) (hl:e.line.length< 1000000): ∃e':Edge,e'.line.length=e.line.length∧e'.id=e.id∧(e'.left=e.right∧e'.right=e.left∧ ∀x ∈ e'.line,x ∈ e.line)∧Ev E 131 [e.v] ⟨.agg [vi e'.id,.own 2 (e'.line.map Pt.v),vi e'.left,vi e'.right],[]⟩:=by
 have key:=Ev.bT (R:=fun r=> ∃e':Edge,e'.line.length=e.line.length∧e'.id=e.id∧(e'.left=e.right∧e'.right=e.left∧ ∀x ∈ e'.line,x ∈ e.line)∧r=⟨.agg [vi e'.id,.own 2 (e'.line.map Pt.v),vi e'.left,vi e'.right],[]⟩) N3 (N4 [e.v]) rfl ?_
 · obtain⟨res,h1,e',h2,h3,h4,rfl⟩:=key
   exact⟨e',h2,h3,h4,h1⟩
 have hp:0 <e.line.length:=List.length_pos_iff.2 h0
 have e1:IntKind.i64.wrap ((e.line.length:Int) - 1)=(e.line.length:Int) - 1:=wrap64 (by omega) (by omega)
 (conv=>whnf);repeat' ((first| intro g| refine st ?_| (refine bd.bo ?_;intro s) | (first| refine b1 ?_ ?_| refine b2 ?_ ?_| refine Br.mk ?_ ?_) <;>intro hc| exact rfl) <;>conv=>whnf)
 rename_i g1 g2
 refine a9.by (fun ((j,ps,og):Nat×List Pt×Option Nat)=> ⟨[(1,.ptr 32 g1 0 0),(2,.ptr 48 g2 0 0),(3,.ptr 64 g 0 0),(4,vi ((j:Int) - 1))],
     match og with
     | none=> [(32,⟨g1,4,false,false,some [e.v]⟩),(48,⟨g2,4,false,false,some [.agg [vi 0,.lit 2 [],vi 0,vi 0]]⟩),(64,⟨g,4,false,false,some [.agg [vi e.id,.nils,vi e.right,vi e.left]]⟩)]
     | some g5=> [(32,⟨g1,4,false,false,some [e.v]⟩),(48,⟨g2,4,false,false,some [.agg [vi 0,.lit 2 [],vi 0,vi 0]]⟩),(64,⟨g,4,false,false,some [.agg [vi e.id,.sl 67 g5 0 ps.length,vi e.right,vi e.left]]⟩),(67,⟨g5,2,true,false,some (ps.map Pt.v)⟩)]⟩)
   (fun (j,ps,og)=>j+ps.length=e.line.length∧(og=none→ps=[])∧ ∀x ∈ ps,x ∈ e.line) (fun (j,_)=>j) (e.line.length,[],none) ?_ ⟨by simp,by simp,by simp⟩ ?_
 · (refine⟨?_,?_⟩ <;>repeat' (first| exact True.intro| refine ai ?_| refine And.intro ?_ ?_))
 rintro⟨j,ps,og⟩ ⟨hj,KU,jN⟩
 try dsimp only at hj KU jN
 cases j with
 | zero=>
   cases og with
   | none=>have:=KU rfl;subst this;simp at hj;omega
   | some g5=>
     (conv=>whnf);repeat' ((first| intro g| refine st ?_| (refine bd.bo ?_;intro s) | (first| refine b1 ?_ ?_| refine b2 ?_ ?_| refine Br.mk ?_ ?_) <;>intro hc| exact rfl) <;>conv=>whnf)
     exact⟨⟨e.id,ps,e.right,e.left⟩,by simpa using hj,rfl,⟨rfl,rfl,jN⟩,rfl⟩
 | succ j=>
   obtain⟨x,hx⟩: ∃x,e.line[j]? =some x:=⟨_,bu (by omega)⟩
   have AT: ((j+1:Nat):Int) - 1=(j:Int):=by omega
   cases og with
   | none=>
     have:=KU rfl
     subst this
     (conv=>whnf);repeat' ((first| intro g| refine bd.mk _ (aJ hx AT) ?_| refine st ?_| (refine bd.bo ?_;intro s) | (first| refine b1 ?_ ?_| refine b2 ?_ ?_| refine Br.mk ?_ ?_) <;>intro hc| exact rfl) <;>conv=>whnf)
     refine br.mk (j,[x],some g) (by first| omega| (dsimp only;omega)) ⟨by simp at hj ⊢;omega,by simp,fun y hy=>by have:=List.mem_singleton.1 hy;subst this;exact List.mem_of_getElem? hx⟩ (by(refine⟨?_,?_⟩ <;>repeat' (first| exact True.intro| refine ai ?_| refine And.intro ?_ ?_)))
   | some g5=>
     (conv=>whnf);repeat' ((first| intro g| refine bd.mk _ (aJ hx AT) ?_| refine st ?_| (refine bd.bo ?_;intro s) | (first| refine b1 ?_ ?_| refine b2 ?_ ?_| refine Br.mk ?_ ?_) <;>intro hc| exact rfl) <;>conv=>whnf)
     refine br.mk (j,ps++[x],some g) (by first| omega| (dsimp only;omega)) ⟨by simp at hj ⊢;omega,by simp,fun y hy=>by
      rcases List.mem_append.1 hy with hy| hy
      · exact jN y hy
      · have:=List.mem_singleton.1 hy;subst this;exact List.mem_of_getElem? hx⟩ (by(refine⟨?_,?_⟩ <;>repeat' (first| exact True.intro| refine ai ?_| refine And.intro ?_ ?_)))
def fR (ps:List Pt):Prop:=2≤ps.length∧ps.length≤5
def Xw (e:Edge):Prop:=(∀p ∈ e.line,Sm p)∧e.left≠e.right
def fB (es:List Edge) (n:Nat):Prop:=es.length≤n∧(∀e ∈ es,fR e.line)∧(∀ (i:Nat) (e:Edge),es[i]? =some e→e.id=(i:Int)+1)∧ ∀e ∈ es,Xw e
theorem fB.snoc {es:List Edge} {n:Nat} {e:Edge} (h:fB es n) (k:fR e.line) (G7:e.id=(es.length:Int)+1) (KV:Xw e):fB (es++[e]) (n+1):=
 ⟨by have:=h.1;simp;omega,fun x hx=>by
   rcases List.mem_append.1 hx with hx| hx
   · exact h.2.1 x hx
   · have:x=e:=by simpa using hx
     subst this;exact k,fun i x hx=>by
   by_cases hi:i<es.length
   · rw[List.getElem?_append_left hi] at hx;exact h.2.2.1 i x hx
   · rw[List.getElem?_append_right (by omega)] at hx
     have h0:i - es.length=0:=by
      have:=(List.getElem?_eq_some_iff.1 hx).1
      simp at this;omega
     rw[h0] at hx;simp at hx;subst hx;rw[G7];omega,fun x hx=>by
   rcases List.mem_append.1 hx with hx| hx
   · exact h.2.2.2 x hx
   · have:=List.mem_singleton.1 hx
     subst this;exact KV⟩
theorem fB.mono {es:List Edge} {n m:Nat} (h:fB es n) (k:n≤m):fB es m:=⟨Nat.le_trans h.1 k,h.2⟩
set_option maxHeartbeats 1000000 in
theorem yF {l:List Int} (hl:l.length< 9223372036854775808) {es:List Edge} {n:Nat} (he:fB es n) (hn:n< 1000) {ps:List Pt} (wh:fR ps) (yg: ∀p ∈ ps,Sm p) (left right:Int) (a0:Nat):
   ∃ (es':List Edge) (a b:Nat),fB es' (n+1)∧Ev E 113 [.msl 4 (es.map Edge.v) 0 es.length,kj ps,vi left,vi right,.mptr 2 [cz l a0] 0 0] ⟨.sl 0 b 0 es'.length,[(b,es'.map Edge.v),(0,[cz l a])]⟩:=by
 have key:=Ev.bT (R:=fun r=> ∃ (es':List Edge) (a b:Nat),fB es' (n+1)∧r=⟨.sl 0 b 0 es'.length,[(b,es'.map Edge.v),(0,[cz l a])]⟩) OH (OI [.msl 4 (es.map Edge.v) 0 es.length,kj ps,vi left,vi right,.mptr 2 [cz l a0] 0 0]) rfl ?_
 · obtain⟨res,h1,es',a,b,h2,rfl⟩:=key
   exact⟨es',a,b,h2,h1⟩
 have oV:=he.1
 have n2:=bI hl 2 (a:=a0) (by omega) (by omega)
 have yG:IntKind.i64.wrap ((es.length:Int)+1)=(es.length:Int)+1:=wrap64 (by omega) (by omega)
 obtain⟨e',FT,YO,CN,QK⟩:=AS ⟨IntKind.i64.wrap ((es.length:Int)+1),ps,left,right⟩ (by intro h;dsimp only at h;subst h;have:=wh.1;simp at this) (by dsimp only;have:=wh.2;omega)
 by_cases yH:left=right
 · subst yH
   (conv=>whnf);repeat' ((first| intro g| refine st ?_| (refine bd.bo ?_;intro s) | (first| refine b1 ?_ ?_| refine b2 ?_ ?_| refine Br.mk ?_ ?_) <;>intro hc| exact rfl) <;>conv=>whnf)
   exact⟨es,a0,0,he.mono (by omega),rfl⟩
 (conv=>whnf);repeat' ((first| contradiction| intro g| refine ak.mk _ (n2) ?_| refine ak.mk _ (QK) ?_| refine st ?_| (refine bd.bo ?_;intro s) | (first| refine b1 ?_ ?_| refine b2 ?_ ?_| refine Br.mk ?_ ?_) <;>intro hc| exact rfl) <;>conv=>whnf)
 · refine⟨es++[e'],bF l a0,g,he.snoc ?_ (YO.trans yG) ⟨fun p hp=>yg p (CN.2.2 p hp),by rw[CN.1,CN.2.1];exact fun h=>yH h.symm⟩,?_⟩
   · unfold fR at*;dsimp only at FT;omega
   · simp only[List.map_append,List.map_cons,List.map_nil,List.length_append,List.length_cons,List.length_nil,List.length_map];rfl
 · refine⟨es++[⟨IntKind.i64.wrap ((es.length:Int)+1),ps,left,right⟩],bF l a0,g,he.snoc wh yG ⟨yg,yH⟩,?_⟩
   simp only[List.map_append,List.map_cons,List.map_nil,List.length_append,List.length_cons,List.length_nil,List.length_map];rfl
end Go.AM
set_option maxRecDepth 20000
namespace Go.AM
theorem qT {cs:List Int} (jc:cs.length=6) {w h:Nat} (hw:w≤3) (hh:h≤2) (i j:Int): ∃r:Int,Ev E 116 [.agg (cs.map vi),aM w,aM h,vi i,vi j] ⟨vi r,[]⟩:=by
 have key:=Ev.bT (R:=fun r=> ∃x:Int,r=⟨vi x,[]⟩) ON (OO [.agg (cs.map vi),aM w,aM h,vi i,vi j]) rfl ?_
 · obtain⟨res,h1,x,rfl⟩:=key
   exact⟨x,h1⟩
 match cs,jc with
 | [x0,x1,x2,x3,x4,x5],_=>
   by_cases jN:0≤i∧0≤j∧i<w∧j<h
   · rcases(by omega:i=0∨i=1∨i=2) with rfl| rfl| rfl<;>rcases(by omega:j=0∨j=1) with rfl| rfl
     all_goals
      (conv=>whnf);repeat' ((first| intro g| refine st ?_| (refine bd.bo ?_;intro s) | (first| refine b1 ?_ ?_| refine b2 ?_ ?_| refine Br.mk ?_ ?_) <;>intro hc| exact rfl) <;>conv=>whnf)
      all_goals exact⟨_,rfl⟩
   · (conv=>whnf);repeat' ((first| intro g| refine st ?_| (refine bd.bo ?_;intro s) | (first| refine b1 ?_ ?_| refine b2 ?_ ?_| refine Br.mk ?_ ?_) <;>intro hc| exact rfl) <;>conv=>whnf)
     all_goals first| exact⟨_,rfl⟩ | (exfalso;omega)
theorem qU {k:Nat} {n:Int} (A B:List Int) (h:A.length+B.length≤k): ∃l':List Int,l'.length≤k+1∧
  ((⟨V.own 1 ([]++A.map vi++[vi n]++B.map vi),[]⟩:eS)=⟨.lit 1 (l'.map vi),[]⟩∨(⟨V.own 1 ([]++A.map vi++[vi n]++B.map vi),[]⟩:eS)=⟨.own 1 (l'.map vi),[]⟩):=
 ⟨A++[n]++B,by simp;omega,.inr (by simp)⟩
theorem KW {l:List Int} (hl:l.length< 1000000) (n:Int): ∃l':List Int,l'.length≤l.length+1∧(Ev E 162 [.lit 1 (l.map vi),vi n] ⟨.lit 1 (l'.map vi),[]⟩∨Ev E 162 [.lit 1 (l.map vi),vi n] ⟨.own 1 (l'.map vi),[]⟩):=by
 have key:=Ev.bT (R:=fun r=> ∃l':List Int,l'.length≤l.length+1∧(r=⟨.lit 1 (l'.map vi),[]⟩∨r=⟨.own 1 (l'.map vi),[]⟩)) Pj (Pk [.lit 1 (l.map vi),vi n]) rfl ?_
 · obtain⟨res,h1,l',h2,rfl| rfl⟩:=key
   · exact⟨l',h2,.inl h1⟩
   · exact⟨l',h2,.inr h1⟩
 (conv=>whnf);repeat' ((first| intro g| refine st ?_| (refine bd.bo ?_;intro s) | (first| refine b1 ?_ ?_| refine b2 ?_ ?_| refine Br.mk ?_ ?_) <;>intro hc| exact rfl) <;>conv=>whnf)
 refine a9.by (fun (j:Nat)=> ⟨[(0,.lit 1 (l.map vi)),(1,vi n),(5,aM j)],[]⟩) (fun j=>j≤l.length) (fun j=>j) l.length ?_ (Nat.le_refl _) ?_
 · (refine⟨?_,?_⟩ <;>repeat' (first| exact True.intro| refine ai ?_| refine And.intro ?_ ?_))
 intro j hj
 by_cases bJ:j<l.length
 · obtain⟨x,hx⟩: ∃x,l[j]? =some x:=⟨_,bu bJ⟩
   cases j with
   | zero=>
     (conv=>whnf);repeat' ((first| intro g| refine bd.mk _ (aJ hx rfl) ?_| refine bd.mk _ (gV _ _ _ _) ?_| refine st ?_| (refine bd.bo ?_;intro s) | (first| refine b1 ?_ ?_| refine b2 ?_ ?_| refine Br.mk ?_ ?_) <;>intro hc| exact rfl) <;>conv=>whnf)
     all_goals first
      | exact⟨l,by omega,.inl rfl⟩
      | exact br.mk j (by first| omega| (dsimp only;omega)) (by omega) (by(refine⟨?_,?_⟩ <;>repeat' (first| exact True.intro| refine ai ?_| refine And.intro ?_ ?_)))
      | exact qU _ _ (by simp only[List.length_take,List.length_drop,List.length_map];omega)
      | trace_state
   | succ j=>
     obtain⟨y,hy⟩: ∃y,l[j]? =some y:=⟨_,bu (by omega)⟩
     have AT:IntKind.i64.wrap (((j+1:Nat):Int) - 1)=(j:Int):=(wrap64 (by omega) (by omega)).trans (by omega)
     (conv=>whnf);repeat' ((first| intro g| refine bd.mk _ (aJ hx rfl) ?_| refine bd.mk _ (aJ hy AT) ?_| refine bd.mk _ (gV _ _ _ _) ?_| refine st ?_| (refine bd.bo ?_;intro s) | (first| refine b1 ?_ ?_| refine b2 ?_ ?_| refine Br.mk ?_ ?_) <;>intro hc| exact rfl) <;>conv=>whnf)
     all_goals first
      | exact⟨l,by omega,.inl rfl⟩
      | exact br.mk j (by first| omega| (dsimp only;omega)) (by omega) (by(refine⟨?_,?_⟩ <;>repeat' (first| exact True.intro| refine ai ?_| refine And.intro ?_ ?_)))
      | exact qU _ _ (by simp only[List.length_take,List.length_drop,List.length_map];omega)
      | trace_state
 · cases j with
   | zero=>
     (conv=>whnf);repeat' ((first| intro g| refine bd.mk _ (gV _ _ _ _) ?_| refine st ?_| (refine bd.bo ?_;intro s) | (first| refine b1 ?_ ?_| refine b2 ?_ ?_| refine Br.mk ?_ ?_) <;>intro hc| exact rfl) <;>conv=>whnf)
     all_goals first
      | exact⟨l,by omega,.inl rfl⟩
      | exact br.mk j (by first| omega| (dsimp only;omega)) (by omega) (by(refine⟨?_,?_⟩ <;>repeat' (first| exact True.intro| refine ai ?_| refine And.intro ?_ ?_)))
      | exact qU _ _ (by simp only[List.length_take,List.length_drop,List.length_map];omega)
      | trace_state
   | succ j=>
     obtain⟨y,hy⟩: ∃y,l[j]? =some y:=⟨_,bu (by omega)⟩
     have AT:IntKind.i64.wrap (((j+1:Nat):Int) - 1)=(j:Int):=(wrap64 (by omega) (by omega)).trans (by omega)
     (conv=>whnf);repeat' ((first| intro g| refine bd.mk _ (aJ hy AT) ?_| refine bd.mk _ (gV _ _ _ _) ?_| refine st ?_| (refine bd.bo ?_;intro s) | (first| refine b1 ?_ ?_| refine b2 ?_ ?_| refine Br.mk ?_ ?_) <;>intro hc| exact rfl) <;>conv=>whnf)
     all_goals first
      | exact⟨l,by omega,.inl rfl⟩
      | exact br.mk j (by first| omega| (dsimp only;omega)) (by omega) (by(refine⟨?_,?_⟩ <;>repeat' (first| exact True.intro| refine ai ?_| refine And.intro ?_ ?_)))
      | exact qU _ _ (by simp only[List.length_take,List.length_drop,List.length_map];omega)
      | trace_state
end Go.AM
