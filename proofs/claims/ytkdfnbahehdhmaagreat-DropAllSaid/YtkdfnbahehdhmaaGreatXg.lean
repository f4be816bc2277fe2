/-
  Texts of the proof, joined by program: DcY, DcZ, DcZ2, DcWr. Own work.
-/
import Derived.Test.YtkdfnbahehdhmaaGreatXf
set_option linter.unusedSimpArgs false
set_option linter.unusedVariables false
namespace Go.AM
theorem DQ (skip:Bool) (n:Int): ∀ (ps:List Pt) (s i:Nat) (p q:Pt),ps[i]? =some p→ps[i+1]? =some q→
   gT skip n s (ps.take (i+2))=gT skip n s (ps.take (i+1))++(if skip && (decide (((s+i:Nat):Int)=n - 1) || decide (((s+i:Nat):Int)=n)) then [] else [(p,q)])
 | [],s,i,p,q,h,k=>by simp at h
 | [a],s,i,p,q,h,k=>by simp at k
 | a::b::r,s,0,p,q,h,k=>by
   simp at h k
   subst h;subst k
   simp[gT]
 | a::b::r,s,i+1,p,q,h,k=>by
   have ih:=DQ skip n (b::r) (s+1) i p q (by simpa using h) (by simpa using k)
   simp only[List.take_succ_cons,gT] at ih ⊢
   rw[ih,List.append_assoc]
   have e:s+1+i=s+(i+1):=by omega
   rw[e]
theorem Lk (skip:Bool) (n:Int) (ps:List Pt) (s:Nat):gT skip n s (ps.take 1)=[]:=by
 cases ps with
 | nil=>rfl
 | cons a r=>rfl
theorem DR (e n:Int): ∀ (es:List Edge) (s k:Nat) (x:Edge),es[k]? =some x→gU e n s (es.take (k+1))=gU e n s (es.take k)++gT (decide (((s+k:Nat):Int)=e)) n 0 x.line
 | [],s,k,x,h=>by simp at h
 | a::es,s,0,x,h=>by
   simp at h
   subst h
   simp[gU]
 | a::es,s,k+1,x,h=>by
   have ih:=DR e n es (s+1) k x (by simpa using h)
   simp only[List.take_succ_cons,gU] at ih ⊢
   rw[ih,List.append_assoc]
   have e1:s+1+k=s+(k+1):=by omega
   rw[e1]
end Go.AM
set_option maxRecDepth 20000
set_option maxHeartbeats 2000000
namespace Go.AM
def vR (k ek i n:Nat):Bool:=decide ((k:Int)=ek) && (decide ((i:Int)=(n:Int) - 1) || decide ((i:Int)=n))
theorem SE {m:aQ} {l:List Pt} {k ek i n mC fp iB Ix:Nat} {a b c p q:Pt} {t:Bool} {Q:bd→SS→Prop} (hp:l[i]? =some p) (hq:l[i+1]? =some q) (hl:l.length< 1000000) (hn:1≤n∧n< 1000000)
   (ht:Ev E 562 [a.v,b.v,c.v,p.v,q.v] ⟨.bool t,[]⟩)
   (hS:vR k ek i n=false∧t=true→ ∀T' O',lk T' 6=some (.bool false)→Q .ret ⟨T',O'⟩)
   (hN:vR k ek i n=true∨t=false→ ∀T' O',SS.Sub ⟨[(1,aD ek),(2,aD n),(3,.ptr 64 mC 0 0),(8,.ptr 144 fp 0 0),(9,.ptr 160 iB 0 0),(10,.ptr 176 Ix 0 0),(11,aD k),(12,dJ l),(13,aD (i+1))],
     [(64,⟨mC,4,false,false,some [m.v]⟩),(144,⟨fp,2,false,false,some [a.v]⟩),(160,⟨iB,2,false,false,some [b.v]⟩),(176,⟨Ix,2,false,false,some [c.v]⟩)]⟩ ⟨T',O'⟩→Q .normal ⟨T',O'⟩):
   oN E CT ⟨[(1,aD ek),(2,aD n),(3,.ptr 64 mC 0 0),(8,.ptr 144 fp 0 0),(9,.ptr 160 iB 0 0),(10,.ptr 176 Ix 0 0),(11,aD k),(12,dJ l),(13,aD i)],
     [(64,⟨mC,4,false,false,some [m.v]⟩),(144,⟨fp,2,false,false,some [a.v]⟩),(160,⟨iB,2,false,false,some [b.v]⟩),(176,⟨Ix,2,false,false,some [c.v]⟩)]⟩ Q:=by
 have Ta:=(List.getElem?_eq_some_iff.1 hq).1
 have w1:IntKind.i64.wrap ((i:Int)+1)=((i+1:Nat):Int):=(wrap64 (by omega) (by omega)).trans (by omega)
 have w2:IntKind.i64.wrap ((n:Int) - 1)=(n:Int) - 1:=wrap64 (by omega) (by omega)
 have rB:IntKind.i64.wrap ((i:Int)+1) < (l.length:Int):=by omega
 have tw:=Two.mk hS hN
 clear hS hN
 cases t
 · have hN:=tw.b (.inr rfl)
   clear tw
   (conv=>whnf);repeat' ((first| intro g| refine aL.mk _ (aq hp rfl) ?_| refine aL.mk _ (aq hq w1) ?_| refine ag.mk _ (ht) ?_| refine st ?_| (first| refine b1 ?_ ?_| refine b2 ?_ ?_| refine Br.mk ?_ ?_) <;>intro hc| exact rfl) <;>conv=>whnf)
   all_goals exact hN _ _ (by(refine⟨?_,?_⟩ <;>repeat' (first| exact True.intro| refine ai ?_| refine And.intro ?_ ?_)))
 · by_cases h1:k=ek
   · subst h1
     by_cases h2: (i:Int)=(n:Int) - 1∨(i:Int)=n
     · have hN:=tw.b (.inl (by unfold vR;simp[h2]))
       clear tw
       (conv=>whnf);repeat' ((first| ((exfalso;omega)) | intro g| refine aL.mk _ (aq hp rfl) ?_| refine aL.mk _ (aq hq w1) ?_| refine ag.mk _ (ht) ?_| refine st ?_| (first| refine b1 ?_ ?_| refine b2 ?_ ?_| refine Br.mk ?_ ?_) <;>intro hc| exact rfl) <;>conv=>whnf)
       all_goals exact hN _ _ (by(refine⟨?_,?_⟩ <;>repeat' (first| exact True.intro| refine ai ?_| refine And.intro ?_ ?_)))
     · have hS:=tw.a ⟨by unfold vR;simp;omega,rfl⟩
       clear tw
       (conv=>whnf);repeat' ((first| ((exfalso;omega)) | intro g| refine aL.mk _ (aq hp rfl) ?_| refine aL.mk _ (aq hq w1) ?_| refine ag.mk _ (ht) ?_| refine st ?_| (first| refine b1 ?_ ?_| refine b2 ?_ ?_| refine Br.mk ?_ ?_) <;>intro hc| exact rfl) <;>conv=>whnf)
       all_goals exact hS _ _ rfl
   · have hS:=tw.a ⟨by unfold vR;simp;omega,rfl⟩
     clear tw
     (conv=>whnf);repeat' ((first| ((exfalso;omega)) | intro g| refine aL.mk _ (aq hp rfl) ?_| refine aL.mk _ (aq hq w1) ?_| refine ag.mk _ (ht) ?_| refine st ?_| (first| refine b1 ?_ ?_| refine b2 ?_ ?_| refine Br.mk ?_ ?_) <;>intro hc| exact rfl) <;>conv=>whnf)
     all_goals exact hS _ _ rfl
end Go.AM
set_option maxRecDepth 20000
set_option maxHeartbeats 2000000
namespace Go.AM
theorem xE (skip:Bool) (n:Int) (T:Pt×Pt→Bool): ∀ (ps:List Pt) (s j:Nat),(gT skip n s (ps.take j)).any T=true→(gT skip n s ps).any T=true
 | [],s,j,h=>by simpa using h
 | [a],s,j,h=>by cases j<;>simp[gT] at h
 | a::b::r,s,0,h=>by simp[gT] at h
 | a::b::r,s,1,h=>by simp[gT] at h
 | a::b::r,s,j+2,h=>by
   have ih:=xE skip n T (b::r) (s+1) (j+1)
   simp only[List.take_succ_cons,gT,List.any_append,Bool.or_eq_true] at h ih ⊢
   exact h.imp id ih
theorem xF (e n:Int) (T:Pt×Pt→Bool): ∀ (es:List Edge) (s j:Nat),(gU e n s (es.take j)).any T=true→(gU e n s es).any T=true
 | [],s,j,h=>by simpa using h
 | a::es,s,0,h=>by simp[gU] at h
 | a::es,s,j+1,h=>by
   have ih:=xF e n T es (s+1) j
   simp only[List.take_succ_cons,gU,List.any_append,Bool.or_eq_true] at h ⊢
   exact h.imp id ih
theorem FD {m:aQ} (h:m.Fit) (q:oC m):Ev E 549 [m.v,aD q.k,aD q.n] ⟨.bool (pX m q.k q.n q.a q.b q.c),[]⟩:=by
 have IQ:=h.e;have hfp:=h.p
 have oO:=h.el
 have Mo:=q.hn
 have v3:=(List.getElem?_eq_some_iff.1 q.hb).1
 have zM:=q.hl
 have ht: ∀d e,Ev E 562 [q.a.v,q.b.v,q.c.v,d.v,e.v] ⟨.bool (eL q.a q.b q.c d e),[]⟩:=fun d e=>A0 _ _ _ d e
 have lH: ∀p:Place,Ev E 563 [q.a.v,q.b.v,q.c.v,.agg [vi p.x,vi p.y]] ⟨.bool (Cu q.a q.b q.c ⟨p.x,p.y⟩),[]⟩:=fun p=>yS (p:=⟨p.x,p.y⟩)
 have w1:IntKind.i64.wrap ((q.n:Int) - 1)=((q.n - 1:Nat):Int):=(wrap64 (by omega) (by omega)).trans (by omega)
 have w2:IntKind.i64.wrap ((q.n:Int)+1)=((q.n+1:Nat):Int):=(wrap64 (by omega) (by omega)).trans (by omega)
 obtain⟨T,hT⟩: ∃T:Pt×Pt→Bool,T=fun x=>eL q.a q.b q.c x.1 x.2:=⟨_,rfl⟩
 obtain⟨Z,hZ⟩: ∃Z,Z=pX m q.k q.n q.a q.b q.c:=⟨_,rfl⟩
 have hZ':Z=(!((gU q.k q.n 0 m.aH).any T) && !(m.aZ.any fun p=>Cu q.a q.b q.c ⟨p.x,p.y⟩)):=by rw[hZ,hT];rfl
 rw[←hZ]
 clear hZ
 have z1: (gU q.k q.n 0 m.aH).any T=true→Z=false:=fun h=>by rw[hZ',h];rfl
 have z2: ∀ (j:Nat) p,m.aZ[j]? =some p→Cu q.a q.b q.c ⟨p.x,p.y⟩=true→Z=false:=fun j p hj hi=>by
   rw[hZ',List.any_eq_true.2 ⟨p,List.mem_of_getElem? hj,hi⟩,Bool.not_true,Bool.and_false]
 have z0: (gU q.k q.n 0 m.aH).any T=false→(∀ (j:Nat) p,m.aZ[j]? =some p→Cu q.a q.b q.c ⟨p.x,p.y⟩=false)→Z=true:=fun h hj=>by
   rw[hZ',h,List.any_eq_false.2 fun p hp=>by
     obtain⟨j,bM,rfl⟩:=List.getElem_of_mem hp
     rw[hj j _ (aE bM)];simp];rfl
 clear hZ'
 have he:=q.he;have ha:=q.ha;have hb:=q.hb;have hc:=q.hc
 refine Ev.aG UL (UM _) rfl ?_
 have pR:Z=false→ ∀T' O',lk T' 6=some (V.bool false)→v9 JG.results [m.v,aD q.k,aD q.n] (fun res=>res=⟨.bool Z,[]⟩) .ret ⟨T',O'⟩:=by
   intro hZ T' O' h
   show kH [.tmp 6] [m.v,aD q.k,aD q.n] ⟨T',O'⟩ (fun res=>res=⟨.bool Z,[]⟩)
   unfold kH
   simp only[xP,h]
   rw[hZ]
   (conv=>whnf);repeat' ((first| intro g| refine st ?_| (first| refine b1 ?_ ?_| refine b2 ?_ ?_| refine Br.mk ?_ ?_) <;>intro hc| exact rfl) <;>conv=>whnf)
 (conv=>whnf);repeat' ((first| intro g| refine aL.mk _ (aq he rfl) ?_| refine aL.mk _ (aq ha w1) ?_| refine aL.mk _ (aq hb rfl) ?_| refine aL.mk _ (aq hc w2) ?_| refine st ?_| (first| refine b1 ?_ ?_| refine b2 ?_ ?_| refine Br.mk ?_ ?_) <;>intro hc| exact rfl) <;>conv=>whnf)
 rename_i mC fp iB
 clear he ha hb hc
 refine aV.by (fun k:Nat=> ⟨[(1,aD q.k),(2,aD q.n),(3,.ptr 64 mC 0 0),(8,.ptr 144 fp 0 0),(9,.ptr 160 iB 0 0),(10,.ptr 176 g 0 0),(11,aD k)],
     [(64,⟨mC,4,false,false,some [m.v]⟩),(144,⟨fp,2,false,false,some [q.a.v]⟩),(160,⟨iB,2,false,false,some [q.b.v]⟩),(176,⟨g,2,false,false,some [q.c.v]⟩)]⟩)
   (fun k=>k≤m.aH.length∧(gU q.k q.n 0 (m.aH.take k)).any T=false) (fun k=>m.aH.length - k) 0 (by(refine⟨?_,?_⟩ <;>repeat' (first| exact True.intro| refine ai ?_| refine And.intro ?_ ?_))) ⟨by simp,by simp[gU]⟩ ?_
 rintro k ⟨hk,hP⟩
 try dsimp only at hk hP
 by_cases bl:k<m.aH.length
 · obtain⟨e,he⟩: ∃e,m.aH[k]? =some e:=⟨_,aE bl⟩
   have SL:=oO e (List.mem_of_getElem? he)
   have mF:=DR q.k q.n m.aH 0 k e he
   rw[Nat.zero_add] at mF
   (conv=>whnf);repeat' ((first| intro g| refine aL.mk _ (aq he rfl) ?_| refine st ?_| (first| refine b1 ?_ ?_| refine b2 ?_ ?_| refine Br.mk ?_ ?_) <;>intro hc| exact rfl) <;>conv=>whnf)
   refine aV.by (fun i:Nat=> ⟨[(1,aD q.k),(2,aD q.n),(3,.ptr 64 mC 0 0),(8,.ptr 144 fp 0 0),(9,.ptr 160 iB 0 0),(10,.ptr 176 g 0 0),(11,aD k),(12,dJ e.line),(13,aD i)],
     [(64,⟨mC,4,false,false,some [m.v]⟩),(144,⟨fp,2,false,false,some [q.a.v]⟩),(160,⟨iB,2,false,false,some [q.b.v]⟩),(176,⟨g,2,false,false,some [q.c.v]⟩)]⟩)
     (fun i=> (i=0∨i+1≤e.line.length)∧(gT (decide ((k:Int)=q.k)) q.n 0 (e.line.take (i+1))).any T=false) (fun i=>e.line.length - i) 0 (by(refine⟨?_,?_⟩ <;>repeat' (first| exact True.intro| refine ai ?_| refine And.intro ?_ ?_))) ⟨.inl rfl,by rw[Lk];rfl⟩ ?_
   rintro i ⟨hi,Fm⟩
   try dsimp only at hi Fm
   by_cases Ta:i+1 <e.line.length
   · obtain⟨p1,SJ⟩: ∃p,e.line[i]? =some p:=⟨_,aE (by omega)⟩
     obtain⟨p2,uM⟩: ∃p,e.line[i+1]? =some p:=⟨_,aE Ta⟩
     have hs:=DQ (decide ((k:Int)=q.k)) q.n e.line 0 i p1 p2 SJ uM
     rw[Nat.zero_add] at hs
     refine SE SJ uM SL ⟨Mo,by omega⟩ (ht p1 p2) (fun hh T' O' I2=>pR (z1 ?_) T' O' I2) fun hh T' O' Bt=>a9.mk (i+1) (by first| omega| (dsimp only;omega)) ⟨.inr (by omega),?_⟩ Bt
     · refine xF _ _ _ _ 0 (k+1) ?_
       rw[mF,List.any_append,Bool.or_eq_true]
       right
       refine xE _ _ _ _ 0 (i+2) ?_
       rw[hs,List.any_append,Bool.or_eq_true]
       right
       have h1:=hh.1
       unfold vR at h1
       rw[h1,hT]
       simp[hh.2]
     · rw[hs,List.any_append,Fm,Bool.false_or]
       rcases hh with hh| hh
       · unfold vR at hh
         rw[hh];rfl
       · split
         · rfl
         · rw[hT];simp[hh]
   · have acO:e.line.take (i+1)=e.line:=List.take_of_length_le (by omega)
     rw[acO] at Fm
     have wi:IntKind.i64.wrap ((i:Int)+1)=((i+1:Nat):Int):=(wrap64 (by omega) (by omega)).trans (by omega)
     clear pR z1 z2 z0
     (conv=>whnf);repeat' ((first| intro g| refine st ?_| (first| refine b1 ?_ ?_| refine b2 ?_ ?_| refine Br.mk ?_ ?_) <;>intro hc| exact rfl) <;>conv=>whnf)
     exact a9.mk (k+1) (by first| omega| (dsimp only;omega)) ⟨by omega,by rw[mF,List.any_append,hP,Fm];rfl⟩ (by(refine⟨?_,?_⟩ <;>repeat' (first| exact True.intro| refine ai ?_| refine And.intro ?_ ?_)))
 · obtain rfl:k=m.aH.length:=by omega
   rw[List.take_length] at hP
   have z0:=z0 hP
   clear z1 hP bl hk
   (conv=>whnf);repeat' ((first| intro g| refine st ?_| (first| refine b1 ?_ ?_| refine b2 ?_ ?_| refine Br.mk ?_ ?_) <;>intro hc| exact rfl) <;>conv=>whnf)
   refine aV.by (fun k:Nat=> ⟨[(3,.ptr 64 mC 0 0),(8,.ptr 144 fp 0 0),(9,.ptr 160 iB 0 0),(10,.ptr 176 g 0 0),(15,aD k)],
     [(64,⟨mC,4,false,false,some [m.v]⟩),(144,⟨fp,2,false,false,some [q.a.v]⟩),(160,⟨iB,2,false,false,some [q.b.v]⟩),(176,⟨g,2,false,false,some [q.c.v]⟩)]⟩)
     (fun k=>k≤m.aZ.length∧ ∀ (j:Nat) p,j<k→m.aZ[j]? =some p→Cu q.a q.b q.c ⟨p.x,p.y⟩=false) (fun k=>m.aZ.length - k) 0 (by(refine⟨?_,?_⟩ <;>repeat' (first| exact True.intro| refine ai ?_| refine And.intro ?_ ?_))) ⟨by simp,by intro j p hj;omega⟩ ?_
   rintro k ⟨hk,hP⟩
   try dsimp only at hk hP
   by_cases bl:k<m.aZ.length
   · obtain⟨p,hp⟩: ∃p,m.aZ[k]? =some p:=⟨_,aE bl⟩
     have hi:=lH p
     cases hz:Cu q.a q.b q.c ⟨p.x,p.y⟩ with
     | true=>
       have hZ:=z2 k p hp hz
       rw[hz] at hi
       clear z0 z2 pR lH ht hP
       rw[hZ]
       (conv=>whnf);repeat' ((first| intro g| refine aL.mk _ (aq hp rfl) ?_| refine ag.mk _ (hi) ?_| refine st ?_| (first| refine b1 ?_ ?_| refine b2 ?_ ?_| refine Br.mk ?_ ?_) <;>intro hc| exact rfl) <;>conv=>whnf)
     | false=>
       rw[hz] at hi
       clear z0 z2 pR lH ht
       (conv=>whnf);repeat' ((first| intro g| refine aL.mk _ (aq hp rfl) ?_| refine ag.mk _ (hi) ?_| refine st ?_| (first| refine b1 ?_ ?_| refine b2 ?_ ?_| refine Br.mk ?_ ?_) <;>intro hc| exact rfl) <;>conv=>whnf)
       exact a9.mk (k+1) (by first| omega| (dsimp only;omega)) ⟨by omega,fun j y hj hy=>by
         by_cases e1:j=k
         · subst e1;rw[hp] at hy;injection hy with hy;subst hy;exact hz
         · exact hP j y (by omega) hy⟩ (by(refine⟨?_,?_⟩ <;>repeat' (first| exact True.intro| refine ai ?_| refine And.intro ?_ ?_)))
   · have hZ:=z0 fun j p hj=>hP j p (by have:=(List.getElem?_eq_some_iff.1 hj).1;omega) hj
     rw[hZ]
     clear z0 z2 pR lH ht
     (conv=>whnf);repeat' ((first| intro g| refine st ?_| (first| refine b1 ?_ ?_| refine b2 ?_ ?_| refine Br.mk ?_ ?_) <;>intro hc| exact rfl) <;>conv=>whnf)
end Go.AM
set_option maxRecDepth 20000
set_option maxHeartbeats 2000000
namespace Go.AM
theorem Ll {m:aQ} (h:m.Fit) (q:oC m):Ev E 536 [m.v,vi q.e.id,aD q.n] ⟨vi (FC m q),[]⟩:=by
 have hf:=j9 h q.e.id
 rw[q.hf] at hf
 have hb:=(List.getElem?_eq_some_iff.1 q.hb).1
 have qT:=(List.getElem?_eq_some_iff.1 q.hc).1
 have hl:=q.hl
 have hn:=q.hn
 have d1:=AW h q.e.left
 have d2:=AW h q.e.right
 have Bb:Ev E 539 [dJ q.e.line,aD q.n] ⟨.own 2 (q.rest.map Pt.v),[]⟩:=AZ hb hl
 have Lj:=FE q.rest (vQ q)
 have hem:=FD h q
 have he:=q.he
 have w3:IntKind.i64.wrap (((q.e.line.map Pt.v).length:Int) - 2)=(q.e.line.length:Int) - 2:=by rw[List.length_map];exact wrap64 (by omega) (by omega)
 have yp: (q.n:Int)≤(q.e.line.length:Int) - 2:=by omega
 unfold FC pW
 generalize pX m q.k q.n q.a q.b q.c=em at*
 generalize j8 m q.e.left=dl at*
 generalize j8 m q.e.right=dr at*
 generalize q.rest=rs at*
 generalize pS rs=ck at*
 unfold dJ at Lj Bb
 refine Ev.aG Gx (Gy _) rfl ?_
 by_cases h0:dl=dr
 · subst h0
   rw[if_pos rfl]
   by_cases h1:dl=0
   · rw[if_pos h1]
     (conv=>whnf);repeat' ((first| ((exfalso;omega)) | intro g| refine aL.mk _ (aq he rfl) ?_| refine ag.mk _ (hf) ?_| refine ag.mk _ (d1) ?_| refine ag.mk _ (d2) ?_| refine st ?_| (first| refine b1 ?_ ?_| refine b2 ?_ ?_| refine Br.mk ?_ ?_) <;>intro hc| exact rfl) <;>conv=>whnf)
   rw[if_neg h1]
   by_cases h2:ck=0
   · rw[if_pos h2]
     cases em
     · (conv=>whnf);repeat' ((first| ((exfalso;omega)) | intro g| refine aL.mk _ (aq he rfl) ?_| refine ag.mk _ (hf) ?_| refine ag.mk _ (d1) ?_| refine ag.mk _ (d2) ?_| refine ag.mk _ (Bb) ?_| refine ag.mk _ (Lj) ?_| refine ag.mk _ (hem) ?_| refine st ?_| (first| refine b1 ?_ ?_| refine b2 ?_ ?_| refine Br.mk ?_ ?_) <;>intro hc| exact rfl) <;>conv=>whnf)
     · (conv=>whnf);repeat' ((first| ((exfalso;omega)) | intro g| refine aL.mk _ (aq he rfl) ?_| refine ag.mk _ (hf) ?_| refine ag.mk _ (d1) ?_| refine ag.mk _ (d2) ?_| refine ag.mk _ (Bb) ?_| refine ag.mk _ (Lj) ?_| refine ag.mk _ (hem) ?_| refine st ?_| (first| refine b1 ?_ ?_| refine b2 ?_ ?_| refine Br.mk ?_ ?_) <;>intro hc| exact rfl) <;>conv=>whnf)
   · rw[if_neg h2]
     (conv=>whnf);repeat' ((first| ((exfalso;omega)) | intro g| refine aL.mk _ (aq he rfl) ?_| refine ag.mk _ (hf) ?_| refine ag.mk _ (d1) ?_| refine ag.mk _ (d2) ?_| refine ag.mk _ (Bb) ?_| refine ag.mk _ (Lj) ?_| refine st ?_| (first| refine b1 ?_ ?_| refine b2 ?_ ?_| refine Br.mk ?_ ?_) <;>intro hc| exact rfl) <;>conv=>whnf)
 · rw[if_neg h0,if_pos rfl]
   (conv=>whnf);repeat' ((first| ((exfalso;omega)) | intro g| refine aL.mk _ (aq he rfl) ?_| refine ag.mk _ (hf) ?_| refine ag.mk _ (d1) ?_| refine ag.mk _ (d2) ?_| refine st ?_| (first| refine b1 ?_ ?_| refine b2 ?_ ?_| refine Br.mk ?_ ?_) <;>intro hc| exact rfl) <;>conv=>whnf)
theorem FF {m:aQ} (h:m.Fit) {id n:Int} (hf:lG m.aH id= -1):Ev E 536 [m.v,vi id,vi n] ⟨vi 5,[]⟩:=by
 have hi:=j9 h id
 rw[hf] at hi
 refine Ev.aG Gx (Gy _) rfl ?_
 (conv=>whnf);repeat' ((first| intro g| refine ag.mk _ (hi) ?_| refine st ?_| (first| refine b1 ?_ ?_| refine b2 ?_ ?_| refine Br.mk ?_ ?_) <;>intro hc| exact rfl) <;>conv=>whnf)
theorem II {m:aQ} (h:m.Fit) {id n:Int} {k:Nat} {e:Edge} (hf:lG m.aH id=k) (he:m.aH[k]? =some e) (hn:n< 1∨(e.line.length:Int) - 2 <n):Ev E 536 [m.v,vi id,vi n] ⟨vi 1,[]⟩:=by
 have hi:=j9 h id
 rw[hf] at hi
 have hl:=h.el e (List.mem_of_getElem? he)
 have w3:IntKind.i64.wrap (((e.line.map Pt.v).length:Int) - 2)=(e.line.length:Int) - 2:=by rw[List.length_map];exact wrap64 (by omega) (by omega)
 refine Ev.aG Gx (Gy _) rfl ?_
 (conv=>whnf);repeat' ((first| ((exfalso;omega)) | intro g| refine aL.mk _ (aq he rfl) ?_| refine ag.mk _ (hi) ?_| refine st ?_| (first| refine b1 ?_ ?_| refine b2 ?_ ?_| refine Br.mk ?_ ?_) <;>intro hc| exact rfl) <;>conv=>whnf)
end Go.AM
