/-
  Texts of the proof: SMadeA, SMadeB, SMadeC, SMadeD, SMadeE, SMadeF, SMadeG.
-/
import Derived.Test.YtjkmpppkkhbjkaaGreatDa
set_option maxRecDepth 20000
set_option maxHeartbeats 4000000
set_option linter.unusedSimpArgs false
set_option linter.unusedVariables false
namespace Go.AM
def zu (a n:Int):Int:=(c9 (a.tmod n+n)).tmod n
theorem CL {a:Int} {n:Nat} (h:0 <n) (h2:n< 1000000000000000):0≤zu a n∧zu a n<n:=by
 unfold zu
 have h1:=Int.tmod_lt_of_pos a (show (0:Int) <n by omega)
 have h3:=Int.lt_tmod_of_pos a (show (0:Int) <n by omega)
 rw[q6 (by omega) (by omega)]
 have h4:=Int.tmod_nonneg (b:=(n:Int)) (a:=a.tmod n+n) (by omega)
 have h5:=Int.tmod_lt_of_pos (a.tmod n+n) (show (0:Int) <n by omega)
 exact⟨h4,h5⟩
theorem Gs {a n:Int} (h:n≠0):Ev E 93 [vi a,vi n] ⟨vi (zu a n),[]⟩:=by
 refine Ev.aT Z6 (Z7 _) rfl ?_
 (conv=>whnf);repeat' ((first| intro g| refine st ?_| (refine aN.bK ?_;intro s) | (first| refine b1 ?_ ?_| refine b2 ?_ ?_| refine Br.mk ?_ ?_) <;>intro hc| exact rfl) <;>conv=>whnf)
def cM (l:List Int) (a:Nat):V:= .agg [.lit 1 (l.map vi),aC a]
def eR (l:List Int) (a n:Nat):Nat:=match l[a]? with
 | some x=> (zu x n).toNat
 | none=>0
def bR (l:List Int) (a:Nat):Nat:=if a<l.length then a+1 else a
theorem fX {l:List Int} {a n:Nat} (h:0 <n) (h2:n< 1000000000000000):eR l a n<n:=by
 unfold eR
 split
 · rename_i x _
   have:=CL (a:=x) h h2
   omega
 · exact h
theorem bW {l:List Int} (hl:l.length< 9223372036854775808) (n:Nat) {a:Nat} (h:0 <n) (h2:n< 1000000000000000):Ev E 85 [.mptr 2 [cM l a] 0 0,aC n] ⟨aC (eR l a n),[(0,[cM l (bR l a)])]⟩:=by
 refine Ev.aT Z0 (Z1 _) rfl ?_
 by_cases bp:a<l.length
 · obtain⟨x,hx⟩: ∃x,l[a]? =some x:=⟨_,aD bp⟩
   have hm:=Gs (a:=x) (n:=(n:Int)) (by omega)
   have hw:IntKind.i64.wrap (IntKind.i64.wrap ((a:Int)+1) - 1)=(a:Int):=by
    rw[wrap64 (n:=(a:Int)+1) (by omega) (by omega)]
    exact(wrap64 (by omega) (by omega)).trans (by omega)
   have hb:=CL (a:=x) h h2
   have e1:eR l a n=(zu x n).toNat:=by simp[eR,hx]
   have e2:bR l a=a+1:=by simp[bR,bp]
   rw[e1,e2]
   have e3:IntKind.i64.wrap ((a:Int)+1)=((a+1:Nat):Int):=(wrap64 (by omega) (by omega)).trans (by omega)
   have e4:aC (zu x n).toNat=vi (zu x n):=by show V.int _ _=V.int _ _;congr 1;omega
   rw[e4]
   (conv=>whnf);repeat' ((first| intro g| refine aN.mk _ (al hx hw) ?_| refine ah.mk _ (hm) ?_| refine st ?_| (refine aN.bK ?_;intro s) | (first| refine b1 ?_ ?_| refine b2 ?_ ?_| refine Br.mk ?_ ?_) <;>intro hc| exact rfl) <;>conv=>whnf)
   show (⟨vi _,[(0,[V.agg [_,V.int .i64 _]])]⟩:dk)=_
   rw[e3];rfl
 · have e1:eR l a n=0:=by simp[eR,show l[a]? =none from by simp;omega]
   have e2:bR l a=a:=by simp[bR,bp]
   rw[e1,e2]
   (conv=>whnf);repeat' ((first| intro g| refine st ?_| (refine aN.bK ?_;intro s) | (first| refine b1 ?_ ?_| refine b2 ?_ ?_| refine Br.mk ?_ ?_) <;>intro hc| exact rfl) <;>conv=>whnf)
theorem Dt {l:List Int} {a n:Nat} (h:0 <n) (h2:n< 1000000000000000): ((eR l a n:Nat):Int) < (n:Int):=by
 have:=fX (l:=l) (a:=a) h h2
 omega
theorem aN.str {L:List V} {n:Nat} {q:V→Prop} (h: ∀x ∈ L,∃s,x= .str s) (hn:n<L.length) (k: ∀s,q (.str s)):aN (fun e=>L[n]? =some e) q:=by
 obtain⟨s,hs⟩:=h L[n] (List.getElem_mem hn)
 refine⟨_,List.getElem?_eq_getElem hn,?_⟩
 rw[hs];exact k s
theorem aN.bK {L:List V} {n:Nat} {q:V→Prop} (k: ∀s,q (.str s)) (h: ∀x ∈ L,∃s,x= .str s:=by simp) (hn:n<L.length:=by first| exact Nat.lt_of_lt_of_le (fX (by decide) (by decide)) (by decide) | fail):aN (fun e=>L[n]? =some e) q:=
 aN.str h hn k
end Go.AM
namespace Go.AM
theorem Gt (a b:Pt):Ev E 161 [a.v,b.v] ⟨(Pt.mk (c9 (a.x - b.x)) (c9 (a.y - b.y))).v,[]⟩:=by
 refine Ev.aT FD (FE _) rfl ?_
 (conv=>whnf);repeat' ((first| intro g| refine st ?_| (refine aN.bK ?_;intro s) | (first| refine b1 ?_ ?_| refine b2 ?_ ?_| refine Br.mk ?_ ?_) <;>intro hc| exact rfl) <;>conv=>whnf)
theorem tg {l:List Int} (hl:l.length< 9223372036854775808) {i j:Nat} (hi:i< 10) (hj:j< 10): ∃p:Pt,Ev E 115 [.lit 1 (l.map vi),aC i,aC j] ⟨p.v,[]⟩:=by
 have key:=Ev.bz (R:=fun r=> ∃p:Pt,r=⟨p.v,[]⟩) Vv (Vw [.lit 1 (l.map vi),aC i,aC j]) rfl ?_
 · obtain⟨res,h1,p,rfl⟩:=key
   exact⟨p,h1⟩
 have w0:IntKind.i64.wrap (4*(j:Int))=((4*j:Nat):Int):=(wrap64 (by omega) (by omega)).trans (by omega)
 have w1:IntKind.i64.wrap (IntKind.i64.wrap (4*(j:Int))+(i:Int))=((4*j+i:Nat):Int):=by rw[w0];exact(wrap64 (by omega) (by omega)).trans (by omega)
 have w2:IntKind.i64.wrap (2*IntKind.i64.wrap (IntKind.i64.wrap (4*(j:Int))+(i:Int)))=((2*(4*j+i):Nat):Int):=by rw[w1];exact(wrap64 (by omega) (by omega)).trans (by omega)
 have w3:IntKind.i64.wrap (IntKind.i64.wrap (2*IntKind.i64.wrap (IntKind.i64.wrap (4*(j:Int))+(i:Int)))+1)=((2*(4*j+i)+1:Nat):Int):=by rw[w2];exact(wrap64 (by omega) (by omega)).trans (by omega)
 by_cases bp:2*(4*j+i)+1 <l.length
 · have hx:=aD (l:=l) (i:=2*(4*j+i)) (by omega)
   have hy:=aD (l:=l) (i:=2*(4*j+i)+1) (by omega)
   (conv=>whnf);repeat' ((first| intro g| refine aN.mk _ (al hx w2) ?_| refine aN.mk _ (al hy w3) ?_| refine ah.mk _ (Gs (by decide)) ?_| refine st ?_| (refine aN.bK ?_;intro s) | (first| refine b1 ?_ ?_| refine b2 ?_ ?_| refine Br.mk ?_ ?_) <;>intro hc| exact rfl) <;>conv=>whnf)
   all_goals exact⟨⟨_,_⟩,rfl⟩
 · (conv=>whnf);repeat' ((first| intro g| refine st ?_| (refine aN.bK ?_;intro s) | (first| refine b1 ?_ ?_| refine b2 ?_ ?_| refine Br.mk ?_ ?_) <;>intro hc| exact rfl) <;>conv=>whnf)
   all_goals exact⟨⟨_,_⟩,rfl⟩
theorem wH {l:List Int} (hl:l.length< 9223372036854775808) (p q:Pt) (a0:Nat): ∃ (ps:List Pt) (a:Nat),2≤ps.length∧ps.length≤5∧Ev E 114 [p.v,q.v,.mptr 2 [cM l a0] 0 0] ⟨.own 2 (ps.map Pt.v),[(0,[cM l a])]⟩:=by
 have key:=Ev.bz (R:=fun r=> ∃ (ps:List Pt) (a:Nat),2≤ps.length∧ps.length≤5∧r=⟨.own 2 (ps.map Pt.v),[(0,[cM l a])]⟩) Vt (Vu [p.v,q.v,.mptr 2 [cM l a0] 0 0]) rfl ?_
 · obtain⟨res,h1,ps,a,h2,h3,rfl⟩:=key
   exact⟨ps,a,h2,h3,h1⟩
 have hn: ∀n a,0 <n→n< 1000→Ev E 85 [.mptr 2 [cM l a] 0 0,aC n] ⟨aC (eR l a n),[(0,[cM l (bR l a)])]⟩:=fun n a h h2=>bW hl n h (by omega)
 have hb:=fX (l:=l) (a:=a0) (n:=4) (by omega) (by omega)
 have Gu:=Gt q p
 generalize hm:eR l a0 4=many at hb
 have n4:=hn 4 a0 (by omega) (by omega)
 rw[hm] at n4
 (conv=>whnf);repeat' ((first| intro g| refine ah.mk _ (n4) ?_| refine ah.mk _ (Gu) ?_| refine st ?_| (refine aN.bK ?_;intro s) | (first| refine b1 ?_ ?_| refine b2 ?_ ?_| refine Br.mk ?_ ?_) <;>intro hc| exact rfl) <;>conv=>whnf)
 rename_i g3 g4 _ g7
 generalize hu:Pt.mk (c9 (q.x - p.x)) (c9 (q.y - p.y))=u
 refine aI.by (fun ((k,ps,a,g7):Nat×List Pt×Nat×Nat)=> ⟨[(2,.ptr 2 0 0 0),(3,.ptr 64 g3 0 0),(4,.ptr 80 g4 0 0),(7,.sl 129 g7 0 ps.length),(8,aC many),(9,.ptr 160 g 0 0),(10,aC (k+1))],
    [(2,⟨0,2,false,false,some [cM l a]⟩),(64,⟨g3,2,false,false,some [p.v]⟩),(80,⟨g4,2,false,false,some [q.v]⟩),(129,⟨g7,2,true,false,some (ps.map Pt.v)⟩),(160,⟨g,2,false,false,some [u.v]⟩)]⟩)
   (fun (k,ps,_,_)=>k≤many∧ps.length=k+1) (fun (k,_)=>many - k) (0,[p],bR l a0,g7) (by subst hu; (refine⟨?_,?_⟩ <;>repeat' (first| exact True.intro| refine ai ?_| refine And.intro ?_ ?_))) ⟨by simp,by simp⟩ ?_
 rintro⟨k,ps,a,g7⟩ ⟨hk,vG⟩
 try dsimp only at hk vG
 have n21:=hn 21 a (by omega) (by omega)
 have e1:IntKind.i64.wrap ((many:Int)+1)=((many+1:Nat):Int):=(wrap64 (by omega) (by omega)).trans (by omega)
 have e2: (many:Int).tdiv 2=((many / 2:Nat):Int):=rfl
 have e3:IntKind.i64.wrap ((many:Int).tdiv 2)=((many / 2:Nat):Int):=by rw[e2];exact(wrap64 (by omega) (by omega)).trans (by omega)
 have e4:IntKind.i64.wrap (1+IntKind.i64.wrap ((many:Int).tdiv 2))=((1+many / 2:Nat):Int):=by rw[e3];exact(wrap64 (by omega) (by omega)).trans (by omega)
 (conv=>whnf);repeat' ((first| intro g| refine ah.mk _ (n21) ?_| refine st ?_| (refine aN.bK ?_;intro s) | (first| refine b1 ?_ ?_| refine b2 ?_ ?_| refine Br.mk ?_ ?_) <;>intro hc| exact rfl) <;>conv=>whnf)
 · refine aE.mk (k+1,ps++[⟨?x,?y⟩],?a,?g) ?h1 ?h2 ?h3
   case h3=> (refine⟨?_,?_⟩ <;>repeat' (first| exact True.intro| refine ai ?_| refine And.intro ?_ ?_))
   case h1=> (first| omega| (dsimp only;omega))
   case h2=>exact⟨by omega,by simp;omega⟩
 · refine aE.mk (k+1,ps++[⟨?x2,?y2⟩],?a2,?g2) ?k1 ?k2 ?k3
   case k3=> (refine⟨?_,?_⟩ <;>repeat' (first| exact True.intro| refine ai ?_| refine And.intro ?_ ?_))
   case k1=> (first| omega| (dsimp only;omega))
   case k2=>exact⟨by omega,by simp;omega⟩
 · exact⟨ps++[q],a,by simp;omega,by simp;omega,by simp⟩
end Go.AM
namespace Go.AM
theorem DM (e:Edge) (h0:e.line≠[]) (hl:e.line.length< 1000000): ∃e':Edge,e'.line.length=e.line.length∧Ev E 131 [e.v] ⟨.agg [vi e'.id,.own 2 (e'.line.map Pt.v),vi e'.left,vi e'.right],[]⟩:=by
 have key:=Ev.bz (R:=fun r=> ∃e':Edge,e'.line.length=e.line.length∧r=⟨.agg [vi e'.id,.own 2 (e'.line.map Pt.v),vi e'.left,vi e'.right],[]⟩) VV (VW [e.v]) rfl ?_
 · obtain⟨res,h1,e',h2,rfl⟩:=key
   exact⟨e',h2,h1⟩
 have hp:0 <e.line.length:=List.length_pos_iff.2 h0
 have e1:IntKind.i64.wrap ((e.line.length:Int) - 1)=(e.line.length:Int) - 1:=wrap64 (by omega) (by omega)
 (conv=>whnf);repeat' ((first| intro g| refine st ?_| (refine aN.bK ?_;intro s) | (first| refine b1 ?_ ?_| refine b2 ?_ ?_| refine Br.mk ?_ ?_) <;>intro hc| exact rfl) <;>conv=>whnf)
 rename_i g1 g2
 refine aI.by (fun ((j,ps,og):Nat×List Pt×Option Nat)=> ⟨[(1,.ptr 32 g1 0 0),(2,.ptr 48 g2 0 0),(3,.ptr 64 g 0 0),(4,vi ((j:Int) - 1))],
     match og with
     | none=> [(32,⟨g1,4,false,false,some [e.v]⟩),(48,⟨g2,4,false,false,some [.agg [vi 0,.lit 2 [],vi 0,vi 0]]⟩),(64,⟨g,4,false,false,some [.agg [vi e.id,.nils,vi e.right,vi e.left]]⟩)]
     | some g5=> [(32,⟨g1,4,false,false,some [e.v]⟩),(48,⟨g2,4,false,false,some [.agg [vi 0,.lit 2 [],vi 0,vi 0]]⟩),(64,⟨g,4,false,false,some [.agg [vi e.id,.sl 67 g5 0 ps.length,vi e.right,vi e.left]]⟩),(67,⟨g5,2,true,false,some (ps.map Pt.v)⟩)]⟩)
   (fun (j,ps,og)=>j+ps.length=e.line.length∧(og=none→ps=[])) (fun (j,_)=>j) (e.line.length,[],none) ?_ ⟨by simp,by simp⟩ ?_
 · (refine⟨?_,?_⟩ <;>repeat' (first| exact True.intro| refine ai ?_| refine And.intro ?_ ?_))
 rintro⟨j,ps,og⟩ ⟨hj,Cw⟩
 try dsimp only at hj Cw
 cases j with
 | zero=>
   cases og with
   | none=>have:=Cw rfl;subst this;simp at hj;omega
   | some g5=>
     (conv=>whnf);repeat' ((first| intro g| refine st ?_| (refine aN.bK ?_;intro s) | (first| refine b1 ?_ ?_| refine b2 ?_ ?_| refine Br.mk ?_ ?_) <;>intro hc| exact rfl) <;>conv=>whnf)
     exact⟨⟨e.id,ps,e.right,e.left⟩,by simpa using hj,rfl⟩
 | succ j=>
   obtain⟨x,hx⟩: ∃x,e.line[j]? =some x:=⟨_,aD (by omega)⟩
   have DN: ((j+1:Nat):Int) - 1=(j:Int):=by omega
   cases og with
   | none=>
     have:=Cw rfl
     subst this
     (conv=>whnf);repeat' ((first| intro g| refine aN.mk _ (al hx DN) ?_| refine st ?_| (refine aN.bK ?_;intro s) | (first| refine b1 ?_ ?_| refine b2 ?_ ?_| refine Br.mk ?_ ?_) <;>intro hc| exact rfl) <;>conv=>whnf)
     refine aE.mk (j,[x],some g) (by first| omega| (dsimp only;omega)) ⟨by simp at hj ⊢;omega,by simp⟩ (by(refine⟨?_,?_⟩ <;>repeat' (first| exact True.intro| refine ai ?_| refine And.intro ?_ ?_)))
   | some g5=>
     (conv=>whnf);repeat' ((first| intro g| refine aN.mk _ (al hx DN) ?_| refine st ?_| (refine aN.bK ?_;intro s) | (first| refine b1 ?_ ?_| refine b2 ?_ ?_| refine Br.mk ?_ ?_) <;>intro hc| exact rfl) <;>conv=>whnf)
     refine aE.mk (j,ps++[x],some g) (by first| omega| (dsimp only;omega)) ⟨by simp at hj ⊢;omega,by simp⟩ (by(refine⟨?_,?_⟩ <;>repeat' (first| exact True.intro| refine ai ?_| refine And.intro ?_ ?_)))
def gV (ps:List Pt):Prop:=2≤ps.length∧ps.length≤5
def gH (es:List Edge) (n:Nat):Prop:=es.length≤n∧ ∀e ∈ es,gV e.line
theorem gH.snoc {es:List Edge} {n:Nat} {e:Edge} (h:gH es n) (k:gV e.line):gH (es++[e]) (n+1):=
 ⟨by have:=h.1;simp;omega,fun x hx=>by
   rcases List.mem_append.1 hx with hx| hx
   · exact h.2 x hx
   · have:x=e:=by simpa using hx
     subst this;exact k⟩
theorem gH.mono {es:List Edge} {n m:Nat} (h:gH es n) (k:n≤m):gH es m:=⟨Nat.le_trans h.1 k,h.2⟩
theorem Bs {l:List Int} (hl:l.length< 9223372036854775808) {es:List Edge} {n:Nat} (he:gH es n) (hn:n< 1000) {ps:List Pt} (vG:gV ps) (left right:Int) (a0:Nat):
   ∃ (es':List Edge) (a b:Nat),gH es' (n+1)∧Ev E 113 [.msl 4 (es.map Edge.v) 0 es.length,kh ps,vi left,vi right,.mptr 2 [cM l a0] 0 0] ⟨.sl 0 b 0 es'.length,[(b,es'.map Edge.v),(0,[cM l a])]⟩:=by
 have key:=Ev.bz (R:=fun r=> ∃ (es':List Edge) (a b:Nat),gH es' (n+1)∧r=⟨.sl 0 b 0 es'.length,[(b,es'.map Edge.v),(0,[cM l a])]⟩) Vr (Vs [.msl 4 (es.map Edge.v) 0 es.length,kh ps,vi left,vi right,.mptr 2 [cM l a0] 0 0]) rfl ?_
 · obtain⟨res,h1,es',a,b,h2,rfl⟩:=key
   exact⟨es',a,b,h2,h1⟩
 have te:=he.1
 have n2:=bW hl 2 (a:=a0) (by omega) (by omega)
 have Gv:IntKind.i64.wrap ((es.length:Int)+1)=(es.length:Int)+1:=wrap64 (by omega) (by omega)
 obtain⟨e',Bt,Gw⟩:=DM ⟨IntKind.i64.wrap ((es.length:Int)+1),ps,left,right⟩ (by intro h;dsimp only at h;subst h;have:=vG.1;simp at this) (by dsimp only;have:=vG.2;omega)
 (conv=>whnf);repeat' ((first| intro g| refine ah.mk _ (n2) ?_| refine ah.mk _ (Gw) ?_| refine st ?_| (refine aN.bK ?_;intro s) | (first| refine b1 ?_ ?_| refine b2 ?_ ?_| refine Br.mk ?_ ?_) <;>intro hc| exact rfl) <;>conv=>whnf)
 · exact⟨es,a0,0,he.mono (by omega),rfl⟩
 · refine⟨es++[e'],bR l a0,g,he.snoc ?_,?_⟩
   · unfold gV at*;dsimp only at Bt;omega
   · simp only[List.map_append,List.map_cons,List.map_nil,List.length_append,List.length_cons,List.length_nil,List.length_map];rfl
 · refine⟨es++[⟨IntKind.i64.wrap ((es.length:Int)+1),ps,left,right⟩],bR l a0,g,he.snoc vG,?_⟩
   simp only[List.map_append,List.map_cons,List.map_nil,List.length_append,List.length_cons,List.length_nil,List.length_map];rfl
end Go.AM
namespace Go.AM
theorem th {cs:List Int} (kI:cs.length=6) {w h:Nat} (hw:w≤3) (hh:h≤2) (i j:Int): ∃r:Int,Ev E 116 [.agg (cs.map vi),aC w,aC h,vi i,vi j] ⟨vi r,[]⟩:=by
 have key:=Ev.bz (R:=fun r=> ∃x:Int,r=⟨vi x,[]⟩) Vx (Vy [.agg (cs.map vi),aC w,aC h,vi i,vi j]) rfl ?_
 · obtain⟨res,h1,x,rfl⟩:=key
   exact⟨x,h1⟩
 match cs,kI with
 | [x0,x1,x2,x3,x4,x5],_=>
   by_cases rj:0≤i∧0≤j∧i<w∧j<h
   · rcases(by omega:i=0∨i=1∨i=2) with rfl| rfl| rfl<;>rcases(by omega:j=0∨j=1) with rfl| rfl
     all_goals
      (conv=>whnf);repeat' ((first| intro g| refine st ?_| (refine aN.bK ?_;intro s) | (first| refine b1 ?_ ?_| refine b2 ?_ ?_| refine Br.mk ?_ ?_) <;>intro hc| exact rfl) <;>conv=>whnf)
      all_goals exact⟨_,rfl⟩
   · (conv=>whnf);repeat' ((first| intro g| refine st ?_| (refine aN.bK ?_;intro s) | (first| refine b1 ?_ ?_| refine b2 ?_ ?_| refine Br.mk ?_ ?_) <;>intro hc| exact rfl) <;>conv=>whnf)
     all_goals first| exact⟨_,rfl⟩ | (exfalso;omega)
theorem tj {k:Nat} {n:Int} (A B:List Int) (h:A.length+B.length≤k): ∃l':List Int,l'.length≤k+1∧
  ((⟨V.own 1 ([]++A.map vi++[vi n]++B.map vi),[]⟩:dk)=⟨.lit 1 (l'.map vi),[]⟩∨(⟨V.own 1 ([]++A.map vi++[vi n]++B.map vi),[]⟩:dk)=⟨.own 1 (l'.map vi),[]⟩):=
 ⟨A++[n]++B,by simp;omega,.inr (by simp)⟩
theorem Gx {l:List Int} (hl:l.length< 1000000) (n:Int): ∃l':List Int,l'.length≤l.length+1∧(Ev E 162 [.lit 1 (l.map vi),vi n] ⟨.lit 1 (l'.map vi),[]⟩∨Ev E 162 [.lit 1 (l.map vi),vi n] ⟨.own 1 (l'.map vi),[]⟩):=by
 have key:=Ev.bz (R:=fun r=> ∃l':List Int,l'.length≤l.length+1∧(r=⟨.lit 1 (l'.map vi),[]⟩∨r=⟨.own 1 (l'.map vi),[]⟩)) U3 (U4 [.lit 1 (l.map vi),vi n]) rfl ?_
 · obtain⟨res,h1,l',h2,rfl| rfl⟩:=key
   · exact⟨l',h2,.inl h1⟩
   · exact⟨l',h2,.inr h1⟩
 (conv=>whnf);repeat' ((first| intro g| refine st ?_| (refine aN.bK ?_;intro s) | (first| refine b1 ?_ ?_| refine b2 ?_ ?_| refine Br.mk ?_ ?_) <;>intro hc| exact rfl) <;>conv=>whnf)
 refine aI.by (fun (j:Nat)=> ⟨[(0,.lit 1 (l.map vi)),(1,vi n),(5,aC j)],[]⟩) (fun j=>j≤l.length) (fun j=>j) l.length ?_ (Nat.le_refl _) ?_
 · (refine⟨?_,?_⟩ <;>repeat' (first| exact True.intro| refine ai ?_| refine And.intro ?_ ?_))
 intro j hj
 by_cases bp:j<l.length
 · obtain⟨x,hx⟩: ∃x,l[j]? =some x:=⟨_,aD bp⟩
   cases j with
   | zero=>
     (conv=>whnf);repeat' ((first| intro g| refine aN.mk _ (al hx rfl) ?_| refine aN.mk _ (gC _ _ _ _) ?_| refine st ?_| (refine aN.bK ?_;intro s) | (first| refine b1 ?_ ?_| refine b2 ?_ ?_| refine Br.mk ?_ ?_) <;>intro hc| exact rfl) <;>conv=>whnf)
     all_goals first
      | exact⟨l,by omega,.inl rfl⟩
      | exact aE.mk j (by first| omega| (dsimp only;omega)) (by omega) (by(refine⟨?_,?_⟩ <;>repeat' (first| exact True.intro| refine ai ?_| refine And.intro ?_ ?_)))
      | exact tj _ _ (by simp only[List.length_take,List.length_drop,List.length_map];omega)
      | trace_state
   | succ j=>
     obtain⟨y,hy⟩: ∃y,l[j]? =some y:=⟨_,aD (by omega)⟩
     have DN:IntKind.i64.wrap (((j+1:Nat):Int) - 1)=(j:Int):=(wrap64 (by omega) (by omega)).trans (by omega)
     (conv=>whnf);repeat' ((first| intro g| refine aN.mk _ (al hx rfl) ?_| refine aN.mk _ (al hy DN) ?_| refine aN.mk _ (gC _ _ _ _) ?_| refine st ?_| (refine aN.bK ?_;intro s) | (first| refine b1 ?_ ?_| refine b2 ?_ ?_| refine Br.mk ?_ ?_) <;>intro hc| exact rfl) <;>conv=>whnf)
     all_goals first
      | exact⟨l,by omega,.inl rfl⟩
      | exact aE.mk j (by first| omega| (dsimp only;omega)) (by omega) (by(refine⟨?_,?_⟩ <;>repeat' (first| exact True.intro| refine ai ?_| refine And.intro ?_ ?_)))
      | exact tj _ _ (by simp only[List.length_take,List.length_drop,List.length_map];omega)
      | trace_state
 · cases j with
   | zero=>
     (conv=>whnf);repeat' ((first| intro g| refine aN.mk _ (gC _ _ _ _) ?_| refine st ?_| (refine aN.bK ?_;intro s) | (first| refine b1 ?_ ?_| refine b2 ?_ ?_| refine Br.mk ?_ ?_) <;>intro hc| exact rfl) <;>conv=>whnf)
     all_goals first
      | exact⟨l,by omega,.inl rfl⟩
      | exact aE.mk j (by first| omega| (dsimp only;omega)) (by omega) (by(refine⟨?_,?_⟩ <;>repeat' (first| exact True.intro| refine ai ?_| refine And.intro ?_ ?_)))
      | exact tj _ _ (by simp only[List.length_take,List.length_drop,List.length_map];omega)
      | trace_state
   | succ j=>
     obtain⟨y,hy⟩: ∃y,l[j]? =some y:=⟨_,aD (by omega)⟩
     have DN:IntKind.i64.wrap (((j+1:Nat):Int) - 1)=(j:Int):=(wrap64 (by omega) (by omega)).trans (by omega)
     (conv=>whnf);repeat' ((first| intro g| refine aN.mk _ (al hy DN) ?_| refine aN.mk _ (gC _ _ _ _) ?_| refine st ?_| (refine aN.bK ?_;intro s) | (first| refine b1 ?_ ?_| refine b2 ?_ ?_| refine Br.mk ?_ ?_) <;>intro hc| exact rfl) <;>conv=>whnf)
     all_goals first
      | exact⟨l,by omega,.inl rfl⟩
      | exact aE.mk j (by first| omega| (dsimp only;omega)) (by omega) (by(refine⟨?_,?_⟩ <;>repeat' (first| exact True.intro| refine ai ?_| refine And.intro ?_ ?_)))
      | exact tj _ _ (by simp only[List.length_take,List.length_drop,List.length_map];omega)
      | trace_state
end Go.AM
namespace Go.AM
theorem ah.ex {E:Env} {f:Nat} {aS:List V} {q P:dk→Prop} (h: ∃res,Ev E f aS res∧P res) (k: ∀res,P res→q res):ah E f aS q:=by
 obtain⟨res,h1,h2⟩:=h
 exact⟨res,h1,k res h2⟩
theorem Gy {l:List Int} (hl:l.length< 9223372036854775808) {es:List Edge} {n:Nat} (he:gH es n) (hn:n< 1000) {ps:List Pt} (vG:gV ps) (left right:Int) (a0:Nat):
  ∃res,Ev E 113 [.msl 4 (es.map Edge.v) 0 es.length,kh ps,vi left,vi right,.mptr 2 [cM l a0] 0 0] res∧ ∃ (es':List Edge) (a b:Nat),gH es' (n+1)∧res=⟨.sl 0 b 0 es'.length,[(b,es'.map Edge.v),(0,[cM l a])]⟩:=by
 obtain⟨es',a,b,h1,h2⟩:=Bs hl he hn vG left right a0
 exact⟨_,h2,es',a,b,h1,rfl⟩
theorem xP {l:List Int} (hl:l.length< 1000000) (n:Int): ∃res,Ev E 162 [.lit 1 (l.map vi),vi n] res∧ ∃l':List Int,l'.length≤l.length+1∧(res=⟨.lit 1 (l'.map vi),[]⟩∨res=⟨.own 1 (l'.map vi),[]⟩):=by
 obtain⟨l',h1,h2| h2⟩:=Gx hl n
 · exact⟨_,h2,l',h1,.inl rfl⟩
 · exact⟨_,h2,l',h1,.inr rfl⟩
theorem DO {l:List Int} (hl:l.length< 9223372036854775808) {es:List Edge} {n:Nat} (he:gH es n) (hn:n< 1000) (c:Pt) (Me:Int) (a0:Nat):
   ∃res,Ev E 117 [.msl 4 (es.map Edge.v) 0 es.length,c.v,vi Me,.mptr 2 [cM l a0] 0 0] res∧ ∃ (es':List Edge) (a b:Nat),gH es' (n+1)∧res=⟨.sl 0 b 0 es'.length,[(b,es'.map Edge.v),(0,[cM l a])]⟩:=by
 refine Ev.bz Vz (VA _) rfl ?_
 have n8:=fun a=>bW hl 8 (a:=a) (by omega) (by omega)
 have n2:=fun a=>bW hl 2 (a:=a) (by omega) (by omega)
 have f4: ∀a b c d:Pt,gV [a,b,c,d]:=fun a b c d=> ⟨by simp,by simp⟩
 have f5: ∀a b c d e:Pt,gV [a,b,c,d,e]:=fun a b c d e=> ⟨by simp,by simp⟩
 have te:=he.1
 (conv=>whnf);repeat' ((first| intro g| refine aN.mk _ (jg rfl) ?_| refine ah.mk _ (n8 _) ?_| refine ah.mk _ (n2 _) ?_| refine st ?_| (refine aN.bK ?_;intro s) | (first| refine b1 ?_ ?_| refine b2 ?_ ?_| refine Br.mk ?_ ?_) <;>intro hc| exact rfl) <;>conv=>whnf)
 · have qg: ∀x1 y1 x2 y2 x3 y3 x4 y4 x5 y5 le ri a,∃res,Ev E 113 [.msl 4 (es.map Edge.v) 0 es.length,.lit 2 [.agg [vi x1,vi y1],.agg [vi x2,vi y2],.agg [vi x3,vi y3],.agg [vi x4,vi y4],.agg [vi x5,vi y5]],vi le,vi ri,.mptr 2 [cM l a] 0 0] res∧ ∃ (es':List Edge) (a b:Nat),gH es' (n+1)∧res=⟨.sl 0 b 0 es'.length,[(b,es'.map Edge.v),(0,[cM l a])]⟩:=
    fun x1 y1 x2 y2 x3 y3 x4 y4 x5 y5 le ri a=>Gy hl he hn (f5 ⟨x1,y1⟩ ⟨x2,y2⟩ ⟨x3,y3⟩ ⟨x4,y4⟩ ⟨x5,y5⟩) le ri a
   refine ah.ex (qg _ _ _ _ _ _ _ _ _ _ _ _ _) ?_
   rintro _ ⟨es',a,b,h1,rfl⟩
   (conv=>whnf);repeat' ((first| intro g| refine st ?_| (refine aN.bK ?_;intro s) | (first| refine b1 ?_ ?_| refine b2 ?_ ?_| refine Br.mk ?_ ?_) <;>intro hc| exact rfl) <;>conv=>whnf)
   exact⟨es',a,_,h1,rfl⟩
 · have qg: ∀x1 y1 x2 y2 x3 y3 x4 y4 le ri a,∃res,Ev E 113 [.msl 4 (es.map Edge.v) 0 es.length,.lit 2 [.agg [vi x1,vi y1],.agg [vi x2,vi y2],.agg [vi x3,vi y3],.agg [vi x4,vi y4]],vi le,vi ri,.mptr 2 [cM l a] 0 0] res∧ ∃ (es':List Edge) (a b:Nat),gH es' (n+1)∧res=⟨.sl 0 b 0 es'.length,[(b,es'.map Edge.v),(0,[cM l a])]⟩:=
    fun x1 y1 x2 y2 x3 y3 x4 y4 le ri a=>Gy hl he hn (f4 ⟨x1,y1⟩ ⟨x2,y2⟩ ⟨x3,y3⟩ ⟨x4,y4⟩) le ri a
   refine ah.ex (qg _ _ _ _ _ _ _ _ _ _ _) ?_
   rintro _ ⟨es',a,b,h1,rfl⟩
   (conv=>whnf);repeat' ((first| intro g| refine st ?_| (refine aN.bK ?_;intro s) | (first| refine b1 ?_ ?_| refine b2 ?_ ?_| refine Br.mk ?_ ?_) <;>intro hc| exact rfl) <;>conv=>whnf)
   exact⟨es',a,_,h1,rfl⟩
theorem zw {es:List Edge} (he:es.length< 10000): ∃res,Ev E 118 [.lit 4 (es.map Edge.v)] res∧ ∃fs:List bu,fs.length≤2*es.length∧res=⟨.own 5 (fs.map bu.v),[]⟩:=by
 refine Ev.bz VB (VC _) rfl ?_
 (conv=>whnf);repeat' ((first| intro g| refine st ?_| (refine aN.bK ?_;intro s) | (first| refine b1 ?_ ?_| refine b2 ?_ ?_| refine Br.mk ?_ ?_) <;>intro hc| exact rfl) <;>conv=>whnf)
 refine aI.by (fun ((k,ids):Nat×List Int)=> ⟨[(0,.lit 4 (es.map Edge.v)),(3,.lit 1 (ids.map vi)),(4,aC k)],[]⟩) (fun (k,ids)=>k≤es.length∧ids.length≤2*k) (fun (k,_)=>es.length - k) (0,[]) (by(refine⟨?_,?_⟩ <;>repeat' (first| exact True.intro| refine ai ?_| refine And.intro ?_ ?_))) ⟨by simp,by simp⟩ ?_
 rintro⟨k,ids⟩ ⟨hk,hi⟩
 try dsimp only at hk hi
 by_cases bp:k<es.length
 · obtain⟨e,wE⟩: ∃e,es[k]? =some e:=⟨_,aD bp⟩
   by_cases h1:e.left=0 <;>by_cases h2:e.right=0
   · (conv=>whnf);repeat' ((first| intro g| refine aN.mk _ (al wE rfl) ?_| refine st ?_| (refine aN.bK ?_;intro s) | (first| refine b1 ?_ ?_| refine b2 ?_ ?_| refine Br.mk ?_ ?_) <;>intro hc| exact rfl) <;>conv=>whnf)
     exact aE.mk (k+1,ids) (by first| omega| (dsimp only;omega)) ⟨(by first| omega| (dsimp only;omega)),(by first| omega| (dsimp only;omega))⟩ (by(refine⟨?_,?_⟩ <;>repeat' (first| exact True.intro| refine ai ?_| refine And.intro ?_ ?_)))
   · (conv=>whnf);repeat' ((first| intro g| refine aN.mk _ (al wE rfl) ?_| refine st ?_| (refine aN.bK ?_;intro s) | (first| refine b1 ?_ ?_| refine b2 ?_ ?_| refine Br.mk ?_ ?_) <;>intro hc| exact rfl) <;>conv=>whnf)
     refine ah.ex (xP (by omega) _) ?_
     rintro _ ⟨l',xQ,rfl| rfl⟩
     all_goals
       (conv=>whnf);repeat' ((first| intro g| refine aN.mk _ (al wE rfl) ?_| refine st ?_| (refine aN.bK ?_;intro s) | (first| refine b1 ?_ ?_| refine b2 ?_ ?_| refine Br.mk ?_ ?_) <;>intro hc| exact rfl) <;>conv=>whnf)
       exact aE.mk (k+1,l') (by first| omega| (dsimp only;omega)) ⟨(by first| omega| (dsimp only;omega)),(by first| omega| (dsimp only;omega))⟩ (by(refine⟨?_,?_⟩ <;>repeat' (first| exact True.intro| refine ai ?_| refine And.intro ?_ ?_)))
   · (conv=>whnf);repeat' ((first| intro g| refine aN.mk _ (al wE rfl) ?_| refine st ?_| (refine aN.bK ?_;intro s) | (first| refine b1 ?_ ?_| refine b2 ?_ ?_| refine Br.mk ?_ ?_) <;>intro hc| exact rfl) <;>conv=>whnf)
     refine ah.ex (xP (by omega) _) ?_
     rintro _ ⟨l',xQ,rfl| rfl⟩
     all_goals
       (conv=>whnf);repeat' ((first| intro g| refine aN.mk _ (al wE rfl) ?_| refine st ?_| (refine aN.bK ?_;intro s) | (first| refine b1 ?_ ?_| refine b2 ?_ ?_| refine Br.mk ?_ ?_) <;>intro hc| exact rfl) <;>conv=>whnf)
       exact aE.mk (k+1,l') (by first| omega| (dsimp only;omega)) ⟨(by first| omega| (dsimp only;omega)),(by first| omega| (dsimp only;omega))⟩ (by(refine⟨?_,?_⟩ <;>repeat' (first| exact True.intro| refine ai ?_| refine And.intro ?_ ?_)))
   · (conv=>whnf);repeat' ((first| intro g| refine aN.mk _ (al wE rfl) ?_| refine st ?_| (refine aN.bK ?_;intro s) | (first| refine b1 ?_ ?_| refine b2 ?_ ?_| refine Br.mk ?_ ?_) <;>intro hc| exact rfl) <;>conv=>whnf)
     refine ah.ex (xP (by omega) _) ?_
     rintro _ ⟨l',xQ,rfl| rfl⟩
     all_goals
       (conv=>whnf);repeat' ((first| intro g| refine aN.mk _ (al wE rfl) ?_| refine st ?_| (refine aN.bK ?_;intro s) | (first| refine b1 ?_ ?_| refine b2 ?_ ?_| refine Br.mk ?_ ?_) <;>intro hc| exact rfl) <;>conv=>whnf)
       refine ah.ex (xP (by omega) _) ?_
       rintro _ ⟨l2,Bg,rfl| rfl⟩
       all_goals
        (conv=>whnf);repeat' ((first| intro g| refine aN.mk _ (al wE rfl) ?_| refine st ?_| (refine aN.bK ?_;intro s) | (first| refine b1 ?_ ?_| refine b2 ?_ ?_| refine Br.mk ?_ ?_) <;>intro hc| exact rfl) <;>conv=>whnf)
        exact aE.mk (k+1,l2) (by first| omega| (dsimp only;omega)) ⟨(by first| omega| (dsimp only;omega)),(by first| omega| (dsimp only;omega))⟩ (by(refine⟨?_,?_⟩ <;>repeat' (first| exact True.intro| refine ai ?_| refine And.intro ?_ ?_)))
 obtain rfl:k=es.length:=by omega
 (conv=>whnf);repeat' ((first| intro g| refine st ?_| (refine aN.bK ?_;intro s) | (first| refine b1 ?_ ?_| refine b2 ?_ ?_| refine Br.mk ?_ ?_) <;>intro hc| exact rfl) <;>conv=>whnf)
 refine aI.by (fun ((j,fs,g):Nat×List bu×Nat)=> ⟨[(3,.lit 1 (ids.map vi)),(5,.sl 97 g 0 fs.length),(6,aC j)],[(97,⟨g,5,true,false,some (fs.map bu.v)⟩)]⟩) (fun (j,fs,_)=>j≤ids.length∧fs.length=j) (fun (j,_)=>ids.length - j) (0,[],g) (by(refine⟨?_,?_⟩ <;>repeat' (first| exact True.intro| refine ai ?_| refine And.intro ?_ ?_))) ⟨by simp,by simp⟩ ?_
 rintro⟨j,fs,g⟩ ⟨hj,hf⟩
 try dsimp only at hj hf
 by_cases bp:j<ids.length
 · obtain⟨x,hx⟩: ∃x,ids[j]? =some x:=⟨_,aD bp⟩
   (conv=>whnf);repeat' ((first| intro g| refine aN.mk _ (al hx rfl) ?_| refine st ?_| (refine aN.bK ?_;intro s) | (first| refine b1 ?_ ?_| refine b2 ?_ ?_| refine Br.mk ?_ ?_) <;>intro hc| exact rfl) <;>conv=>whnf)
   exact aE.mk (j+1,fs++[⟨x,[],[],0,0⟩],g) (by first| omega| (dsimp only;omega)) ⟨(by first| omega| (dsimp only;omega)),by simp;omega⟩ (by(refine⟨?_,?_⟩ <;>repeat' (first| exact True.intro| refine ai ?_| refine And.intro ?_ ?_)))
 · (conv=>whnf);repeat' ((first| intro g| refine st ?_| (refine aN.bK ?_;intro s) | (first| refine b1 ?_ ?_| refine b2 ?_ ?_| refine Br.mk ?_ ?_) <;>intro hc| exact rfl) <;>conv=>whnf)
   exact⟨fs,by omega,rfl⟩
end Go.AM
namespace Go.AM
def Bu:aW→Nat→aW
 | .seq _ b,n+1=>Bu b n
 | c,_=>c
def eH (l:List Int):V:= .lit 1 (l.map vi)
def fa (ls:List (List Int)):V:= .lit 1 (ls.map eH)
theorem Xa {first second dO:List Int} (hl:first.length< 9223372036854775808) {w h:Nat} (hw:w≤3) (hh:h≤2) (S:SS) (gd go a0:Nat) (Mf:List Int) (h6:Mf.length=6)
   (hS:SS.Sub ⟨[(5,eH second),(6,eH dO),(7,.ptr 672 gd 0 0),(8,aC w),(9,aC h),(10,.ptr 176 go 0 0),(11,aC 0)],[(672,⟨gd,2,false,false,some [cM first a0]⟩),(176,⟨go,6,false,false,some [.agg (Mf.map vi)]⟩)]⟩ S)
   (Q:aX→SS→Prop)
   (hQ: ∀ (a:Nat) (cs:List Int),cs.length=6→Q (.exit 0) ⟨[(5,eH second),(6,eH dO),(7,.ptr 672 gd 0 0),(8,aC w),(9,aC h),(10,.ptr 176 go 0 0)],[(672,⟨gd,2,false,false,some [cM first a]⟩),(176,⟨go,6,false,false,some [.agg (cs.map vi)]⟩)]⟩):
   aI E Bp S Q:=by
 have n5:=fun a=>bW hl 5 (a:=a) (by omega) (by omega)
 refine aI.Lq ?_
 refine aI.by (fun ((i,cs,a):Nat×List Int×Nat)=> ⟨[(5,eH second),(6,eH dO),(7,.ptr 672 gd 0 0),(8,aC w),(9,aC h),(10,.ptr 176 go 0 0),(11,aC i)],[(672,⟨gd,2,false,false,some [cM first a]⟩),(176,⟨go,6,false,false,some [.agg (cs.map vi)]⟩)]⟩)
   (fun (i,cs,_)=>i≤w∧cs.length=6) (fun (i,_)=>w - i) (0,Mf,a0) hS ⟨by simp,h6⟩ ?_
 rintro⟨i,cs,a⟩ ⟨hi,kI⟩
 try dsimp only at hi kI
 by_cases bp:i<w
 · (conv =>whnf);repeat' ((first| intro g| refine st ?_| (refine aN.bK ?_;intro s) | (first| refine b1 ?_ ?_| refine b2 ?_ ?_| refine Br.mk ?_ ?_) <;>intro hc| exact rfl) <;>conv=>whnf)
   refine aI.by (fun ((j,cs,a):Nat×List Int×Nat)=> ⟨[(5,eH second),(6,eH dO),(7,.ptr 672 gd 0 0),(8,aC w),(9,aC h),(10,.ptr 176 go 0 0),(11,aC i),(12,aC j)],[(672,⟨gd,2,false,false,some [cM first a]⟩),(176,⟨go,6,false,false,some [.agg (cs.map vi)]⟩)]⟩)
     (fun (j,cs,_)=>j≤h∧cs.length=6) (fun (j,_)=>h - j) (0,cs,a) (by(refine⟨?_,?_⟩ <;>repeat' (first| exact True.intro| refine ai ?_| refine And.intro ?_ ?_))) ⟨by simp,kI⟩ ?_
   rintro⟨j,cs,a⟩ ⟨hj,kI⟩
   try dsimp only at hj kI
   by_cases aaY:j<h
   · match cs,kI with
     | [x0,x1,x2,x3,x4,x5],_=>
       rcases(by omega:i=0∨i=1∨i=2) with rfl| rfl| rfl<;>rcases(by omega:j=0∨j=1) with rfl| rfl
       all_goals
         (conv=>whnf);repeat' ((first| intro g| refine eA.mk (⟨by decide,by decide⟩) ?_| refine ah.mk _ (n5 _) ?_| refine st ?_| (refine aN.bK ?_;intro s) | (first| refine b1 ?_ ?_| refine b2 ?_ ?_| refine Br.mk ?_ ?_) <;>intro hc| exact rfl) <;>conv=>whnf)
         all_goals first
          | exact aE.mk (1,[_,_,_,_,_,_],_) (by first| omega| (dsimp only;omega)) ⟨(by first| omega| (dsimp only;omega)),rfl⟩ (by(refine⟨?_,?_⟩ <;>repeat' (first| exact True.intro| refine ai ?_| refine And.intro ?_ ?_)))
          | exact aE.mk (2,[_,_,_,_,_,_],_) (by first| omega| (dsimp only;omega)) ⟨(by first| omega| (dsimp only;omega)),rfl⟩ (by(refine⟨?_,?_⟩ <;>repeat' (first| exact True.intro| refine ai ?_| refine And.intro ?_ ?_)))
          | trace_state
   · (conv=>whnf);repeat' ((first| intro g| refine st ?_| (refine aN.bK ?_;intro s) | (first| refine b1 ?_ ?_| refine b2 ?_ ?_| refine Br.mk ?_ ?_) <;>intro hc| exact rfl) <;>conv=>whnf)
     exact aE.mk (i+1,cs,a) (by first| omega| (dsimp only;omega)) ⟨(by first| omega| (dsimp only;omega)),kI⟩ (by(refine⟨?_,?_⟩ <;>repeat' (first| exact True.intro| refine ai ?_| refine And.intro ?_ ?_)))
 · (conv=>whnf);repeat' ((first| intro g| refine st ?_| (refine aN.bK ?_;intro s) | (first| refine b1 ?_ ?_| refine b2 ?_ ?_| refine Br.mk ?_ ?_) <;>intro hc| exact rfl) <;>conv=>whnf)
   refine⟨_,?_,hQ a cs kI⟩
   (refine⟨?_,?_⟩ <;>repeat' (first| exact True.intro| refine ai ?_| refine And.intro ?_ ?_))
end Go.AM
namespace Go.AM
abbrev KM (second dO:List Int) (gd w h go ge:Nat) (x0 x1 x2 x3 x4 x5:Int) (first:List Int) (ad ae:Nat) (es:List Edge) (g7:Nat) (more:List (Nat×V)):SS:=
 ⟨more++[(5,eH second),(7,.ptr 672 gd 0 0),(8,aC w),(9,aC h),(10,.ptr 176 go 0 0),(13,.ptr 1712 ge 0 0),(14,.sl 241 g7 0 es.length)],
   [(672,⟨gd,2,false,false,some [cM first ad]⟩),(176,⟨go,6,false,false,some [.agg [vi x0,vi x1,vi x2,vi x3,vi x4,vi x5]]⟩),(1712,⟨ge,2,false,false,some [cM dO ae]⟩),(241,⟨g7,4,true,false,some (es.map Edge.v)⟩)]⟩
section
variable {second dO first:List Int} (h2:second.length< 9223372036854775808) (h3:dO.length< 9223372036854775808) {w h:Nat} (hw:w≤3) (hh:h≤2) {gd go ge ad:Nat} {x0 x1 x2 x3 x4 x5:Int}
include h2 h3 hw hh
theorem Xb (S:SS) (Xc:Nat) (g0:Nat) (hS:SS.Sub (KM second dO gd w h go ge x0 x1 x2 x3 x4 x5 first ad Xc [] g0 [(15,aC 0)]) S) (Q:aX→SS→Prop)
   (hQ: ∀ (es:List Edge) (ae g7:Nat),gH es 9→Q (.exit 4) (KM second dO gd w h go ge x0 x1 x2 x3 x4 x5 first ad ae es g7 [])):aI E LP S Q:=by
 refine aI.Lq ?_
 refine aI.by (fun ((j,es,ae,g7):Nat×List Edge×Nat×Nat)=>KM second dO gd w h go ge x0 x1 x2 x3 x4 x5 first ad ae es g7 [(15,aC j)])
   (fun (j,es,_,_)=>j≤h+1∧gH es (3*j)) (fun (j,_)=>h+1 - j) (0,[],Xc,g0) hS ⟨by simp,⟨by simp,by simp⟩⟩ ?_
 rintro⟨j,es,ae,g7⟩ ⟨hj,he⟩
 try dsimp only at hj he
 by_cases bp:j≤h
 · (conv=>whnf);repeat' ((first| intro g| refine st ?_| (refine aN.bK ?_;intro s) | (first| refine b1 ?_ ?_| refine b2 ?_ ?_| refine Br.mk ?_ ?_) <;>intro hc| exact rfl) <;>conv=>whnf)
   refine aI.by (fun ((i,es,ae,g7):Nat×List Edge×Nat×Nat)=>KM second dO gd w h go ge x0 x1 x2 x3 x4 x5 first ad ae es g7 [(15,aC j),(16,aC i)])
     (fun (i,es,_,_)=>i≤w∧gH es (3*j+i)) (fun (i,_)=>w - i) (0,es,ae,g7) (by(refine⟨?_,?_⟩ <;>repeat' (first| exact True.intro| refine ai ?_| refine And.intro ?_ ?_))) ⟨by simp,he⟩ ?_
   rintro⟨i,es,ae,g7⟩ ⟨hi,he⟩
   try dsimp only at hi he
   have te:=he.1
   by_cases aab:i<w
   · have hiw:IntKind.i64.wrap ((i:Int)+1)=((i+1:Nat):Int):=(wrap64 (by omega) (by omega)).trans (by omega)
     obtain⟨p1,Nq⟩:=tg h2 (i:=i) (j:=j) (by omega) (by omega)
     obtain⟨p2,ET⟩:=tg h2 (i:=i+1) (j:=j) (by omega) (by omega)
     have Mg:Ev E 115 [.lit 1 (second.map vi),vi (IntKind.i64.wrap ((i:Int)+1)),aC j] ⟨p2.v,[]⟩:=by rw[hiw];exact ET
     obtain⟨ps,a1,l1,l2,Mh⟩:=wH h3 p1 p2 ae
     obtain⟨c1,rk⟩:=th (cs:=[x0,x1,x2,x3,x4,x5]) rfl hw hh (i:Int) (j:Int)
     obtain⟨c2,td⟩:=th (cs:=[x0,x1,x2,x3,x4,x5]) rfl hw hh (i:Int) (IntKind.i64.wrap ((j:Int) - 1))
     obtain⟨es',a2,b,gm,qg⟩:=Bs h3 he (by omega) (ps:=ps) ⟨l1,l2⟩ c1 c2 a1
     (conv=>whnf);repeat' ((first| intro g| refine ah.mk _ (Nq) ?_| refine ah.mk _ (Mg) ?_| refine ah.mk _ (Mh) ?_| refine ah.mk _ (rk) ?_| refine ah.mk _ (td) ?_| refine ah.mk _ (qg) ?_| refine st ?_| (refine aN.bK ?_;intro s) | (first| refine b1 ?_ ?_| refine b2 ?_ ?_| refine Br.mk ?_ ?_) <;>intro hc| exact rfl) <;>conv=>whnf)
     exact aE.mk (i+1,es',a2,_) (by first| omega| (dsimp only;omega)) ⟨(by first| omega| (dsimp only;omega)),gm⟩ (by(refine⟨?_,?_⟩ <;>repeat' (first| exact True.intro| refine ai ?_| refine And.intro ?_ ?_)))
   · obtain rfl:i=w:=by omega
     (conv=>whnf);repeat' ((first| intro g| refine st ?_| (refine aN.bK ?_;intro s) | (first| refine b1 ?_ ?_| refine b2 ?_ ?_| refine Br.mk ?_ ?_) <;>intro hc| exact rfl) <;>conv=>whnf)
     exact aE.mk (j+1,es,ae,g7) (by first| omega| (dsimp only;omega)) ⟨(by first| omega| (dsimp only;omega)),he.mono (by omega)⟩ (by(refine⟨?_,?_⟩ <;>repeat' (first| exact True.intro| refine ai ?_| refine And.intro ?_ ?_)))
 · (conv=>whnf);repeat' ((first| intro g| refine st ?_| (refine aN.bK ?_;intro s) | (first| refine b1 ?_ ?_| refine b2 ?_ ?_| refine Br.mk ?_ ?_) <;>intro hc| exact rfl) <;>conv=>whnf)
   refine⟨_,?_,hQ es ae g7 (he.mono (by omega))⟩
   (refine⟨?_,?_⟩ <;>repeat' (first| exact True.intro| refine ai ?_| refine And.intro ?_ ?_))
theorem Xd (S:SS) (nA:List Edge) (he0:gH nA 9) (Xc:Nat) (g0:Nat) (hS:SS.Sub (KM second dO gd w h go ge x0 x1 x2 x3 x4 x5 first ad Xc nA g0 [(17,aC 0)]) S) (Q:aX→SS→Prop)
   (hQ: ∀ (es:List Edge) (ae g7:Nat),gH es 17→Q (.exit 8) (KM second dO gd w h go ge x0 x1 x2 x3 x4 x5 first ad ae es g7 [])):aI E LQ S Q:=by
 refine aI.Lq ?_
 refine aI.by (fun ((j,es,ae,g7):Nat×List Edge×Nat×Nat)=>KM second dO gd w h go ge x0 x1 x2 x3 x4 x5 first ad ae es g7 [(17,aC j)])
   (fun (j,es,_,_)=>j≤h∧gH es (9+4*j)) (fun (j,_)=>h - j) (0,nA,Xc,g0) hS ⟨by simp,he0⟩ ?_
 rintro⟨j,es,ae,g7⟩ ⟨hj,he⟩
 try dsimp only at hj he
 by_cases bp:j<h
 · (conv=>whnf);repeat' ((first| intro g| refine st ?_| (refine aN.bK ?_;intro s) | (first| refine b1 ?_ ?_| refine b2 ?_ ?_| refine Br.mk ?_ ?_) <;>intro hc| exact rfl) <;>conv=>whnf)
   refine aI.by (fun ((i,es,ae,g7):Nat×List Edge×Nat×Nat)=>KM second dO gd w h go ge x0 x1 x2 x3 x4 x5 first ad ae es g7 [(17,aC j),(18,aC i)])
     (fun (i,es,_,_)=>i≤w+1∧gH es (9+4*j+i)) (fun (i,_)=>w+1 - i) (0,es,ae,g7) (by(refine⟨?_,?_⟩ <;>repeat' (first| exact True.intro| refine ai ?_| refine And.intro ?_ ?_))) ⟨by simp,he⟩ ?_
   rintro⟨i,es,ae,g7⟩ ⟨hi,he⟩
   try dsimp only at hi he
   have te:=he.1
   by_cases aab:i≤w
   · have DN:IntKind.i64.wrap ((j:Int)+1)=((j+1:Nat):Int):=(wrap64 (by omega) (by omega)).trans (by omega)
     obtain⟨p1,Nq⟩:=tg h2 (i:=i) (j:=j) (by omega) (by omega)
     obtain⟨p2,ET⟩:=tg h2 (i:=i) (j:=j+1) (by omega) (by omega)
     have Mg:Ev E 115 [.lit 1 (second.map vi),aC i,vi (IntKind.i64.wrap ((j:Int)+1))] ⟨p2.v,[]⟩:=by rw[DN];exact ET
     obtain⟨ps,a1,l1,l2,Mh⟩:=wH h3 p1 p2 ae
     obtain⟨c1,rk⟩:=th (cs:=[x0,x1,x2,x3,x4,x5]) rfl hw hh (IntKind.i64.wrap ((i:Int) - 1)) (j:Int)
     obtain⟨c2,td⟩:=th (cs:=[x0,x1,x2,x3,x4,x5]) rfl hw hh (i:Int) (j:Int)
     obtain⟨es',a2,b,gm,qg⟩:=Bs h3 he (by omega) (ps:=ps) ⟨l1,l2⟩ c1 c2 a1
     (conv=>whnf);repeat' ((first| intro g| refine ah.mk _ (Nq) ?_| refine ah.mk _ (Mg) ?_| refine ah.mk _ (Mh) ?_| refine ah.mk _ (rk) ?_| refine ah.mk _ (td) ?_| refine ah.mk _ (qg) ?_| refine st ?_| (refine aN.bK ?_;intro s) | (first| refine b1 ?_ ?_| refine b2 ?_ ?_| refine Br.mk ?_ ?_) <;>intro hc| exact rfl) <;>conv=>whnf)
     exact aE.mk (i+1,es',a2,_) (by first| omega| (dsimp only;omega)) ⟨(by first| omega| (dsimp only;omega)),gm⟩ (by(refine⟨?_,?_⟩ <;>repeat' (first| exact True.intro| refine ai ?_| refine And.intro ?_ ?_)))
   · obtain rfl:i=w+1:=by omega
     (conv=>whnf);repeat' ((first| intro g| refine st ?_| (refine aN.bK ?_;intro s) | (first| refine b1 ?_ ?_| refine b2 ?_ ?_| refine Br.mk ?_ ?_) <;>intro hc| exact rfl) <;>conv=>whnf)
     exact aE.mk (j+1,es,ae,g7) (by first| omega| (dsimp only;omega)) ⟨(by first| omega| (dsimp only;omega)),he.mono (by omega)⟩ (by(refine⟨?_,?_⟩ <;>repeat' (first| exact True.intro| refine ai ?_| refine And.intro ?_ ?_)))
 · (conv=>whnf);repeat' ((first| intro g| refine st ?_| (refine aN.bK ?_;intro s) | (first| refine b1 ?_ ?_| refine b2 ?_ ?_| refine Br.mk ?_ ?_) <;>intro hc| exact rfl) <;>conv=>whnf)
   refine⟨_,?_,hQ es ae g7 (he.mono (by omega))⟩
   (refine⟨?_,?_⟩ <;>repeat' (first| exact True.intro| refine ai ?_| refine And.intro ?_ ?_))
end
end Go.AM
