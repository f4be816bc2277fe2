/-
  Texts of the proof: LtH, LtI, LtJ.
-/
import Derived.Test.YtjkmpppkkhbjkaaGreatTb
import Derived.Test.YtjkmpppkkhbjkaaGreatTc
import Derived.Test.YtjkmpppkkhbjkaaGreatDd
set_option maxRecDepth 20000
set_option linter.unusedSimpArgs false
set_option linter.unusedVariables false
set_option maxHeartbeats 4000000
namespace Go.AM
theorem AB {l:List Pt} {n:Nat} (hn:n<l.length) (hl:l.length< 1000):Ev E 539 [kh l,aC n] ⟨.own 2 ((l.eraseIdx n).map Pt.v),[]⟩:=by
 have w2:IntKind.i64.wrap ((n:Int)+1)=((n+1:Nat):Int):=(wrap64 (by omega) (by omega)).trans (by omega)
 rw[List.eraseIdx_eq_take_drop_succ]
 refine Ev.aT Wf (Wg _) rfl ?_
 (conv=>whnf);repeat' ((first| intro g| refine aN.mk _ (De) ?_| refine aN.mk _ (Df w2) ?_| refine st ?_| (first| refine b1 ?_ ?_| refine b2 ?_ ?_| refine Br.mk ?_ ?_) <;>intro hc| exact rfl) <;>conv=>whnf)
 simp only[List.nil_append,List.map_append]
theorem yC {m:bk} {k n j i:Nat} {a b c:Pt} {o:List Pt} {g1 g2 g3 g4:Nat} {Q:aX→SS→Prop} (ho:o.length< 1000) (hi:i+1 <o.length) (hn:n< 1000) (hk:k< 1000) (hj:j< 1000) (aaQ: ∀T O,Q .ret ⟨(6,.bool false)::T,O⟩)
  (hQ: ∀T O,SS.Sub ⟨[(1,aC k),(2,aC n),(3,.ptr 64 g1 0 0),(8,.ptr 144 g2 0 0),(9,.ptr 160 g3 0 0),(10,.ptr 176 g4 0 0),(11,aC j),(12,kh o),(13,aC (i+1))],
    [(64,⟨g1,4,false,false,some [m.v]⟩),(144,⟨g2,2,false,false,some [a.v]⟩),(160,⟨g3,2,false,false,some [b.v]⟩),(176,⟨g4,2,false,false,some [c.v]⟩)]⟩ ⟨T,O⟩→Q .normal ⟨T,O⟩):
  lR E IG ⟨[(1,aC k),(2,aC n),(3,.ptr 64 g1 0 0),(8,.ptr 144 g2 0 0),(9,.ptr 160 g3 0 0),(10,.ptr 176 g4 0 0),(11,aC j),(12,kh o),(13,aC i)],
    [(64,⟨g1,4,false,false,some [m.v]⟩),(144,⟨g2,2,false,false,some [a.v]⟩),(160,⟨g3,2,false,false,some [b.v]⟩),(176,⟨g4,2,false,false,some [c.v]⟩)]⟩ Q:=by
 obtain⟨p,hp⟩: ∃p,o[i]? =some p:=⟨_,aD (by omega)⟩
 obtain⟨q,hq⟩: ∃p,o[i+1]? =some p:=⟨_,aD (by omega)⟩
 obtain⟨F,hF⟩:=Bk
 have w1:IntKind.i64.wrap ((i:Int)+1)=((i+1:Nat):Int):=(wrap64 (by omega) (by omega)).trans (by omega)
 (conv=>whnf);repeat' ((first| ((exfalso;omega)) | intro g| refine aN.mk _ (al hp rfl) ?_| refine aN.mk _ (al hq w1) ?_| refine ah.mk _ (hF _ _ _ _ _) ?_| refine st ?_| (first| refine b1 ?_ ?_| refine b2 ?_ ?_| refine Br.mk ?_ ?_) <;>intro hc| exact rfl) <;>conv=>whnf)
 all_goals first| exact aaQ _ _| skip
 all_goals
  refine hQ _ _ ?_
  (refine⟨?_,?_⟩ <;>repeat' (first| exact True.intro| refine ai ?_| refine And.intro ?_ ?_))
theorem Cf {m:bk} (h:m.Sm) {k n:Nat} {e:Edge} (he:m.aU[k]? =some e) (h1:1≤n) (h2:n+1 <e.line.length): ∃b:Bool,Ev E 549 [m.v,aC k,aC n] ⟨.bool b,[]⟩:=by
 have te:=h.el e (List.mem_of_getElem? he)
 have hlen:=h.e
 have hk:=(List.getElem?_eq_some_iff.1 he).1
 obtain⟨a,ha⟩: ∃p,e.line[n - 1]? =some p:=⟨_,aD (by omega)⟩
 obtain⟨b,hb⟩: ∃p,e.line[n]? =some p:=⟨_,aD (by omega)⟩
 obtain⟨c,hc⟩: ∃p,e.line[n+1]? =some p:=⟨_,aD (by omega)⟩
 have w1:IntKind.i64.wrap ((n:Int) - 1)=((n - 1:Nat):Int):=(wrap64 (by omega) (by omega)).trans (by omega)
 have w2:IntKind.i64.wrap ((n:Int)+1)=((n+1:Nat):Int):=(wrap64 (by omega) (by omega)).trans (by omega)
 obtain⟨F,hF⟩:=Cz
 refine cj (Ev.bz WG (WH _) rfl ?_)
 (conv=>whnf);repeat' ((first| intro g| refine aN.mk _ (al he rfl) ?_| refine aN.mk _ (al ha w1) ?_| refine aN.mk _ (al hb rfl) ?_| refine aN.mk _ (al hc w2) ?_| refine st ?_| (first| refine b1 ?_ ?_| refine b2 ?_ ?_| refine Br.mk ?_ ?_) <;>intro hc| exact rfl) <;>conv=>whnf)
 rename_i g1 g2 g3
 obtain⟨g4,hg4⟩: ∃x,x=g:=⟨_,rfl⟩
 rw[←hg4];clear hg4
 refine aI.by (fun j:Nat=> ⟨[(1,aC k),(2,aC n),(3,.ptr 64 g1 0 0),(8,.ptr 144 g2 0 0),(9,.ptr 160 g3 0 0),(10,.ptr 176 g4 0 0),(11,aC j)],
     [(64,⟨g1,4,false,false,some [m.v]⟩),(144,⟨g2,2,false,false,some [a.v]⟩),(160,⟨g3,2,false,false,some [b.v]⟩),(176,⟨g4,2,false,false,some [c.v]⟩)]⟩) (fun j=>j≤m.aU.length) (fun j=>m.aU.length - j) 0 (by(refine⟨?_,?_⟩ <;>repeat' (first| exact True.intro| refine ai ?_| refine And.intro ?_ ?_))) (by omega) ?_
 rintro j hj
 by_cases bp:j<m.aU.length
 · obtain⟨o,ho⟩: ∃p,m.aU[j]? =some p:=⟨_,aD bp⟩
   have MZ:=h.el o (List.mem_of_getElem? ho)
   (conv=>whnf);repeat' ((first| intro g| refine aN.mk _ (al ho rfl) ?_| refine st ?_| (first| refine b1 ?_ ?_| refine b2 ?_ ?_| refine Br.mk ?_ ?_) <;>intro hc| exact rfl) <;>conv=>whnf)
   refine aI.by (fun i:Nat=> ⟨[(1,aC k),(2,aC n),(3,.ptr 64 g1 0 0),(8,.ptr 144 g2 0 0),(9,.ptr 160 g3 0 0),(10,.ptr 176 g4 0 0),(11,aC j),(12,kh o.line),(13,aC i)],
     [(64,⟨g1,4,false,false,some [m.v]⟩),(144,⟨g2,2,false,false,some [a.v]⟩),(160,⟨g3,2,false,false,some [b.v]⟩),(176,⟨g4,2,false,false,some [c.v]⟩)]⟩) (fun i=>i≤o.line.length) (fun i=>o.line.length - i) 0 (by(refine⟨?_,?_⟩ <;>repeat' (first| exact True.intro| refine ai ?_| refine And.intro ?_ ?_))) (by omega) ?_
   rintro i hi
   by_cases Cx:i+1 <o.line.length
   · refine yC MZ Cx (by omega) (by omega) (by omega) (fun T O=> ?_) (fun T O hs=> ?_)
     · (conv=>whnf);repeat' ((first| intro g| refine st ?_| (first| refine b1 ?_ ?_| refine b2 ?_ ?_| refine Br.mk ?_ ?_) <;>intro hc| exact rfl) <;>conv=>whnf)
       exact⟨_,rfl⟩
     · exact aE.mk (i+1) (by omega) (by omega) hs
   · have w3:IntKind.i64.wrap ((i:Int)+1)=((i+1:Nat):Int):=(wrap64 (by omega) (by omega)).trans (by omega)
     (conv=>whnf);repeat' ((first| ((exfalso;omega)) | intro g| refine st ?_| (first| refine b1 ?_ ?_| refine b2 ?_ ?_| refine Br.mk ?_ ?_) <;>intro hc| exact rfl) <;>conv=>whnf)
     exact aE.mk (j+1) (by first| omega| (dsimp only;omega)) (by omega) (by(refine⟨?_,?_⟩ <;>repeat' (first| exact True.intro| refine ai ?_| refine And.intro ?_ ?_)))
 (conv=>whnf);repeat' ((first| intro g| refine st ?_| (first| refine b1 ?_ ?_| refine b2 ?_ ?_| refine Br.mk ?_ ?_) <;>intro hc| exact rfl) <;>conv=>whnf)
 refine aI.by (fun j:Nat=> ⟨[(3,.ptr 64 g1 0 0),(8,.ptr 144 g2 0 0),(9,.ptr 160 g3 0 0),(10,.ptr 176 g4 0 0),(15,aC j)],
     [(64,⟨g1,4,false,false,some [m.v]⟩),(144,⟨g2,2,false,false,some [a.v]⟩),(160,⟨g3,2,false,false,some [b.v]⟩),(176,⟨g4,2,false,false,some [c.v]⟩)]⟩) (fun j=>j≤m.au.length) (fun j=>m.au.length - j) 0 (by(refine⟨?_,?_⟩ <;>repeat' (first| exact True.intro| refine ai ?_| refine And.intro ?_ ?_))) (by omega) ?_
 have EU:=h.p
 clear bp hj j
 rintro j hj
 by_cases bp:j<m.au.length
 · obtain⟨o,ho⟩: ∃p,m.au[j]? =some p:=⟨_,aD bp⟩
   (conv=>whnf);repeat' ((first| intro g| refine aN.mk _ (al ho rfl) ?_| refine ah.mk _ (hF _ _ _ ⟨_,_⟩) ?_| refine st ?_| (first| refine b1 ?_ ?_| refine b2 ?_ ?_| refine Br.mk ?_ ?_) <;>intro hc| exact rfl) <;>conv=>whnf)
   · exact⟨_,rfl⟩
   · exact aE.mk (j+1) (by first| omega| (dsimp only;omega)) (by omega) (by(refine⟨?_,?_⟩ <;>repeat' (first| exact True.intro| refine ai ?_| refine And.intro ?_ ?_)))
 · (conv=>whnf);repeat' ((first| intro g| refine st ?_| (first| refine b1 ?_ ?_| refine b2 ?_ ?_| refine Br.mk ?_ ?_) <;>intro hc| exact rfl) <;>conv=>whnf)
   exact⟨_,rfl⟩
theorem sI {m:bk} (h:m.Sm) {id n:Int} (hf:mZ m.aU id= -1):Ev E 536 [m.v,vi id,vi n] ⟨vi 5,[]⟩:=by
 have hi:=ij h id
 rw[hf] at hi
 refine Ev.aT FT (FU _) rfl ?_
 (conv=>whnf);repeat' ((first| intro g| refine ah.mk _ (hi) ?_| refine st ?_| (first| refine b1 ?_ ?_| refine b2 ?_ ?_| refine Br.mk ?_ ?_) <;>intro hc| exact rfl) <;>conv=>whnf)
theorem vA {m:bk} (h:m.Sm) {id n:Int} {k:Nat} {e:Edge} (hf:mZ m.aU id=k) (he:m.aU[k]? =some e) (hn:n< 1∨(e.line.length:Int) - 2 <n):Ev E 536 [m.v,vi id,vi n] ⟨vi 1,[]⟩:=by
 have hi:=ij h id
 rw[hf] at hi
 have hl:=h.el e (List.mem_of_getElem? he)
 have w3:IntKind.i64.wrap (((e.line.map Pt.v).length:Int) - 2)=(e.line.length:Int) - 2:=by rw[List.length_map];exact wrap64 (by omega) (by omega)
 refine Ev.aT FT (FU _) rfl ?_
 (conv=>whnf);repeat' ((first| ((exfalso;omega)) | intro g| refine aN.mk _ (al he rfl) ?_| refine ah.mk _ (hi) ?_| refine st ?_| (first| refine b1 ?_ ?_| refine b2 ?_ ?_| refine Br.mk ?_ ?_) <;>intro hc| exact rfl) <;>conv=>whnf)
theorem vB {m:bk} (h:m.Sm) {id:Int} {k n:Nat} {e:Edge} (hf:mZ m.aU id=k) (he:m.aU[k]? =some e) (h1:1≤n) (h2:n+1 <e.line.length): ∃c:Int,Ev E 536 [m.v,vi id,aC n] ⟨vi c,[]⟩:=by
 have hi:=ij h id
 rw[hf] at hi
 have hl:=h.el e (List.mem_of_getElem? he)
 have w3:IntKind.i64.wrap (((e.line.map Pt.v).length:Int) - 2)=(e.line.length:Int) - 2:=by rw[List.length_map];exact wrap64 (by omega) (by omega)
 obtain⟨b,hb⟩:=Cf h he h1 h2
 obtain⟨D,hD⟩:=xi h
 have hr:=AB (l:=e.line) (n:=n) (by omega) hl
 obtain⟨x,hx⟩:=Bj (e.line.eraseIdx n) (by rw[List.length_eraseIdx];split<;>omega)
 obtain⟨os,E3⟩: ∃x,e.line.eraseIdx n=x:=⟨_,rfl⟩
 rw[E3] at hr hx
 refine cj (g:=vi) (Ev.bz FT (FU _) rfl ?_)
 (conv=>whnf);repeat' ((first| ((exfalso;omega)) | intro g| refine aN.mk _ (al he rfl) ?_| refine ah.mk _ (hi) ?_| refine ah.mk _ (hD _) ?_| refine ah.mk _ (hr) ?_| refine ah.mk _ (hx) ?_| refine ah.mk _ (hb) ?_| refine st ?_| (first| refine b1 ?_ ?_| refine b2 ?_ ?_| refine Br.mk ?_ ?_) <;>intro hc| exact rfl) <;>conv=>whnf)
 all_goals exact⟨_,rfl⟩
end Go.AM
set_option maxHeartbeats 4000000
namespace Go.AM
theorem Cg (x:Int): -9223372036854775808≤c9 x∧c9 x≤9223372036854775807:=by
 unfold c9 IntKind.wrap
 simp only[IntKind.bits,IntKind.signed]
 simp
 omega
def HW (x:Int):Int:=if x<c9 (0 - x) then c9 (0 - x) else x
theorem JY {x:Int} (h:x≤9223372036854775807):HW x≤9223372036854775807:=by
 unfold HW
 split
 · exact(Cg _).2
 · exact h
theorem yD {m:bk} (h:m.Sm) {id n:Int} (hf:mZ m.aU id= -1):Ev E 528 [m.v,vi id,vi n] ⟨vi 0,[]⟩:=by
 have hi:=ij h id
 rw[hf] at hi
 refine Ev.aT FV (FW _) rfl ?_
 (conv=>whnf);repeat' ((first| intro g| refine ah.mk _ (hi) ?_| refine st ?_| (first| refine b1 ?_ ?_| refine b2 ?_ ?_| refine Br.mk ?_ ?_) <;>intro hc| exact rfl) <;>conv=>whnf)
theorem AD {m:bk} (h:m.Sm) {id n:Int} {k:Nat} {e:Edge} (hf:mZ m.aU id=k) (he:m.aU[k]? =some e) (hn:n< 1∨(e.line.length:Int) - 2 <n):Ev E 528 [m.v,vi id,vi n] ⟨vi 0,[]⟩:=by
 have hi:=ij h id
 rw[hf] at hi
 have hl:=h.el e (List.mem_of_getElem? he)
 have hk:=(List.getElem?_eq_some_iff.1 he).1
 have w3:IntKind.i64.wrap (((e.line.map Pt.v).length:Int) - 2)=(e.line.length:Int) - 2:=by rw[List.length_map];exact wrap64 (by omega) (by omega)
 refine Ev.aT FV (FW _) rfl ?_
 (conv=>whnf);repeat' ((first| ((exfalso;omega)) | intro g| refine aN.mk _ (al he rfl) ?_| refine ah.mk _ (hi) ?_| refine st ?_| (first| refine b1 ?_ ?_| refine b2 ?_ ?_| refine Br.mk ?_ ?_) <;>intro hc| exact rfl) <;>conv=>whnf)
theorem AE {m:bk} (h:m.Sm) {id:Int} {k n:Nat} {e:Edge} (hf:mZ m.aU id=k) (he:m.aU[k]? =some e) (h1:1≤n) (h2:n+1 <e.line.length): ∃c:Int,Ev E 528 [m.v,vi id,aC n] ⟨vi c,[]⟩:=by
 have hi:=ij h id
 rw[hf] at hi
 have hl:=h.el e (List.mem_of_getElem? he)
 have hk:=(List.getElem?_eq_some_iff.1 he).1
 have w3:IntKind.i64.wrap (((e.line.map Pt.v).length:Int) - 2)=(e.line.length:Int) - 2:=by rw[List.length_map];exact wrap64 (by omega) (by omega)
 obtain⟨a,ha⟩: ∃p,e.line[n - 1]? =some p:=⟨_,aD (by omega)⟩
 obtain⟨b,hb⟩: ∃p,e.line[n]? =some p:=⟨_,aD (by omega)⟩
 obtain⟨c,hc⟩: ∃p,e.line[n+1]? =some p:=⟨_,aD (by omega)⟩
 have w1:IntKind.i64.wrap ((n:Int) - 1)=((n - 1:Nat):Int):=(wrap64 (by omega) (by omega)).trans (by omega)
 have w2:IntKind.i64.wrap ((n:Int)+1)=((n+1:Nat):Int):=(wrap64 (by omega) (by omega)).trans (by omega)
 have s1:=nv b a
 have s2:=nv c a
 have s3:=DA ⟨c9 (b.x - a.x),c9 (b.y - a.y)⟩ ⟨c9 (c.x - a.x),c9 (c.y - a.y)⟩
 obtain⟨ar,har⟩: ∃x,x=c9 (c9 (c9 (b.x - a.x)*c9 (c.y - a.y)) - c9 (c9 (b.y - a.y)*c9 (c.x - a.x))):=⟨_,rfl⟩
 dsimp only at s3
 rw[←har] at s3
 have hs:Ev E 127 [vi (HW ar)] ⟨vi (lJ (HW ar)),[]⟩:=uc (JY (by rw[har];exact(Cg _).2))
 clear har
 generalize lJ (HW ar)=sq at hs
 refine cj (g:=vi) (Ev.bz FV (FW _) rfl ?_)
 (conv=>whnf);repeat' ((first| ((exfalso;omega)) | intro g| refine aN.mk _ (al he rfl) ?_| refine aN.mk _ (al ha w1) ?_| refine aN.mk _ (al hb rfl) ?_| refine aN.mk _ (al hc w2) ?_| refine ah.mk _ (hi) ?_| refine ah.mk _ (s1) ?_| refine ah.mk _ (s2) ?_| refine ah.mk _ (s3) ?_| refine ah.mk _ (hs) ?_| refine st ?_| (first| refine b1 ?_ ?_| refine b2 ?_ ?_| refine Br.mk ?_ ?_) <;>intro hc| exact rfl) <;>conv=>whnf)
 all_goals exact⟨_,rfl⟩
theorem sJ {m:bk} (h:m.Sm) (id n:Int): ∃c:Int,Ev E 528 [m.v,vi id,vi n] ⟨vi c,[]⟩:=by
 rcases bV (fun e:Edge=>decide (e.id=id)) m.aU with⟨hf,_⟩ | ⟨k,e,hf,he,_⟩
 · exact⟨_,yD h hf⟩
 by_cases hn:n< 1∨(e.line.length:Int) - 2 <n
 · exact⟨_,AD h hf he hn⟩
 obtain⟨j,rfl⟩: ∃j:Nat,n=j:=⟨n.toNat,by omega⟩
 exact AE h hf he (by omega) (by omega)
theorem lI {m:bk} {id n c:Int} (h4:Ev E 536 [m.v,vi id,vi n] ⟨vi c,[]⟩) (hz:c≠0):oC 525 [m.v,vi id,vi n]:=by
 refine .mk (Ev.bz Kz (KA _) rfl ?_)
 (conv=>whnf);repeat' ((first| contradiction| intro g| refine ah.mk _ (h4) ?_| refine st ?_| (first| refine b1 ?_ ?_| refine b2 ?_ ?_| refine Br.mk ?_ ?_) <;>intro hc| exact rfl) <;>conv=>whnf)
 exact⟨bk.zr,c,xk,rfl⟩
theorem AF {m:bk} (h:m.Sm) {id:Int} {k n:Nat} {e:Edge} (hf:mZ m.aU id=k) (he:m.aU[k]? =some e) (h1:1≤n) (h2:n+1 <e.line.length) (h4:Ev E 536 [m.v,vi id,aC n] ⟨vi 0,[]⟩):oC 525 [m.v,vi id,aC n]:=by
 have hk:=(List.getElem?_eq_some_iff.1 he).1
 have n1:m.aU≠[]:=by intro e;rw[e] at hk;simp at hk
 obtain⟨_,hcp,f,w,p,hf5,hw8,hp7,rfl⟩:=Ce h n1
 have hi:=ij h id
 rw[hf] at hi
 have hl:=h.el e (List.mem_of_getElem? he)
 have hr:Ev E 539 [kh e.line,aC n] ⟨.own 2 ((e.line.eraseIdx n).map Pt.v),[]⟩:=AB (by omega) hl
 obtain⟨os,E3⟩: ∃x,e.line.eraseIdx n=x:=⟨_,rfl⟩
 rw[E3] at hr
 have MZ:os.length< 1000:=by rw[←E3,List.length_eraseIdx];split<;>omega
 obtain⟨es,bl⟩: ∃x,m.aU.set k ⟨e.id,os,e.left,e.right⟩=x:=⟨_,rfl⟩
 have Xz: (m.aU.map Edge.v).set (k:Int).toNat (.agg [vi e.id,.lit 2 (os.map Pt.v),vi e.left,vi e.right])=es.map Edge.v:=by
  rw[←bl];simp[List.map_set,Edge.v,kh]
 have Ie:bk.Sm ⟨es,m.ba,m.ways,m.au⟩:=by
  refine⟨by rw[←bl];simpa using h.e,h.f,h.w,h.p,fun x hx=> ?_,h.wl⟩
  rw[←bl] at hx
  rcases List.mem_or_eq_of_mem_set hx with hx| rfl
  · exact h.el x hx
  · exact MZ
 have key: (∃res,Ev E 525 [m.v,vi id,aC n] res∧ ∃f w p,v8 5 (m.ba.map bu.v) f∧v8 8 (m.ways.map Way.v) w∧v8 7 (m.au.map Place.v) p∧res=⟨.tuple [.agg [.own 4 (es.map Edge.v),f,w,p],vi 0],[]⟩)→oC 525 [m.v,vi id,aC n]:=by
  rintro⟨_,k1,f,w,p,k2,k3,k4,rfl⟩
  exact⟨_,⟨es,m.ba,m.ways,m.au⟩,0,k1,Nb (.inl rfl) k2 k3 k4,Ie⟩
 have f5:=hf5
 have w8:=hw8
 have p7:=hp7
 rcases hf5 with rfl| rfl<;>rcases hw8 with rfl| rfl<;>rcases hp7 with rfl| rfl
 all_goals
  refine key (Ev.bz Kz (KA _) rfl ?_)
  (conv=>whnf);repeat' ((first| intro g| refine aN.mk _ (al he rfl) ?_| refine aN.mk _ (jg rfl) ?_| refine aN.mk _ (jg (by simp)) ?_| refine ah.mk _ (h4) ?_| refine ah.mk _ (hcp) ?_| refine ah.mk _ (hi) ?_| refine ah.mk _ (hr) ?_| refine st ?_| (first| refine b1 ?_ ?_| refine b2 ?_ ?_| refine Br.mk ?_ ?_) <;>intro hc| exact rfl) <;>conv=>whnf)
  rw[Xz]
  exact⟨_,_,_,f5,w8,p7,rfl⟩
theorem HX {m:bk} (h:m.Sm) (id n:Int):oC 525 [m.v,vi id,vi n]:=by
 rcases bV (fun e:Edge=>decide (e.id=id)) m.aU with⟨hf,_⟩ | ⟨k,e,hf,he,_⟩
 · exact lI (sI h hf) (by decide)
 by_cases hn:n< 1∨(e.line.length:Int) - 2 <n
 · exact lI (vA h hf he hn) (by decide)
 obtain⟨j,rfl⟩: ∃j:Nat,n=j:=⟨n.toNat,by omega⟩
 obtain⟨c,hc⟩:=vB h hf he (n:=j) (by omega) (by omega)
 by_cases hz:c=0
 · subst hz
   exact AF h hf he (by omega) (by omega) hc
 · exact lI hc hz
theorem vC {m:bk} (h:m.Sm) (id n:Int): ∃c:Int,Ev E 536 [m.v,vi id,vi n] ⟨vi c,[]⟩:=by
 rcases bV (fun e:Edge=>decide (e.id=id)) m.aU with⟨hf,_⟩ | ⟨k,e,hf,he,_⟩
 · exact⟨_,sI h hf⟩
 by_cases hn:n< 1∨(e.line.length:Int) - 2 <n
 · exact⟨_,vA h hf he hn⟩
 obtain⟨j,rfl⟩: ∃j:Nat,n=j:=⟨n.toNat,by omega⟩
 exact vB h hf he (by omega) (by omega)
theorem Ch {m:bk} (h:m.Sm) (id:Int): ∃c:Int,Ev E 651 [m.v,vi id] ⟨vi c,[]⟩:=by
 rcases bV (fun w:Way=>decide (w.id=id)) m.ways with⟨hf,_⟩ | ⟨k,w,hf,hw,_⟩
 · exact⟨_,sG h.w hf⟩
 · exact pb h hf hw
end Go.AM
set_option maxHeartbeats 4000000
namespace Go.AM
theorem HY {m:bk} (h:m.Sm) {e:Edge} {d:Int} {k j fc yE yF jY:Nat} {L W:List Event} {Q:aX→SS→Prop} (hle:e.line.length< 1000) (hW:W.length≤j)
   (hQ: ∀T' O' (g:Nat) (W':List Event),W'.length≤j+1→SS.Sub ⟨[(1,vi d),(2,.ptr 48 fc 0 0),(5,.sl 97 yE 0 L.length),(6,aC k),(7,.ptr 128 jY 0 0),(8,.sl 145 g 0 W'.length),(9,aC (j+2))],
     [(48,⟨fc,4,false,false,some [m.v]⟩),(97,⟨yE,5,true,false,some (L.map Event.v)⟩),(128,⟨jY,4,false,false,some [e.v]⟩),(145,⟨g,5,true,false,some (W'.map Event.v)⟩)]⟩ ⟨T',O'⟩→Q .normal ⟨T',O'⟩) (bp:j+2 <e.line.length):
   lR E IE ⟨[(1,vi d),(2,.ptr 48 fc 0 0),(5,.sl 97 yE 0 L.length),(6,aC k),(7,.ptr 128 jY 0 0),(8,.sl 145 yF 0 W.length),(9,aC (j+1))],
     [(48,⟨fc,4,false,false,some [m.v]⟩),(97,⟨yE,5,true,false,some (L.map Event.v)⟩),(128,⟨jY,4,false,false,some [e.v]⟩),(145,⟨yF,5,true,false,some (W.map Event.v)⟩)]⟩ Q:=by
 obtain⟨c,h1⟩:=vC h e.id ((j+1:Nat):Int)
 obtain⟨x,h2⟩:=sJ h e.id ((j+1:Nat):Int)
 have w1:IntKind.i64.wrap (((j+1:Nat):Int)+1)=((j+2:Nat):Int):=(wrap64 (by omega) (by omega)).trans (by omega)
 by_cases h0:c=0
 · subst h0
   (conv=>whnf);repeat' ((first| ((exfalso;omega)) | intro g| refine ah.mk _ (h1) ?_| refine ah.mk _ (h2) ?_| refine st ?_| (first| refine b1 ?_ ?_| refine b2 ?_ ?_| refine Br.mk ?_ ?_) <;>intro hc| exact rfl) <;>conv=>whnf)
   exact hQ _ _ g (W++[⟨1,_,e.id,0,((j+1:Nat):Int)⟩]) (by simp;omega) (by(refine⟨?_,?_⟩ <;>repeat' (first| exact True.intro| refine ai ?_| refine And.intro ?_ ?_)))
 · (conv=>whnf);repeat' ((first| ((exfalso;omega)) | contradiction| intro g| refine ah.mk _ (h1) ?_| refine st ?_| (first| refine b1 ?_ ?_| refine b2 ?_ ?_| refine Br.mk ?_ ?_) <;>intro hc| exact rfl) <;>conv=>whnf)
   refine hQ _ _ yF W (by omega) ?_
   (refine⟨?_,?_⟩ <;>repeat' (first| exact True.intro| refine ai ?_| refine And.intro ?_ ?_))
theorem yG {L:List Event} {p:Nat}:aJ (L.map Event.v) 0 ((p:Int).toNat - 0)=(L.take p).map Event.v:=by
 unfold aJ;simp[List.map_take]
theorem yH {L:List Event} {p:Nat}:aJ (L.map Event.v) (0+(p:Int).toNat) (L.length - (p:Int).toNat)=(L.drop p).map Event.v:=by
 unfold aJ;rw[List.take_of_length_le (by simp)];simp[List.map_drop]
theorem Nd {m:bk} (h:m.Sm) (d:Int): ∃l:List Event,l.length≤1000000∧Ev E 530 [m.v,vi d] ⟨.own 5 (l.map Event.v),[]⟩:=by
 suffices hh: ∃res,Ev E 530 [m.v,vi d] res∧ ∃l:List Event,l.length≤1000000∧res=⟨.own 5 (l.map Event.v),[]⟩ by
   obtain⟨_,h1,l,h2,rfl⟩:=hh
   exact⟨l,h2,h1⟩
 have hlen:=h.e
 obtain⟨D,hD⟩:=xi h
 refine Ev.bz VX (VY _) rfl ?_
 by_cases EW:d< 1
 · (conv=>whnf);repeat' ((first| ((exfalso;omega)) | intro g| refine st ?_| (first| refine b1 ?_ ?_| refine b2 ?_ ?_| refine Br.mk ?_ ?_) <;>intro hc| exact rfl) <;>conv=>whnf)
   exact⟨[],by simp,rfl⟩
 (conv=>whnf);repeat' ((first| ((exfalso;omega)) | intro g| refine st ?_| (first| refine b1 ?_ ?_| refine b2 ?_ ?_| refine Br.mk ?_ ?_) <;>intro hc| exact rfl) <;>conv=>whnf)
 rename_i fc
 refine aI.by (fun ((k,L,yE):Nat×List Event×Nat)=> ⟨[(1,vi d),(2,.ptr 48 fc 0 0),(5,.sl 97 yE 0 L.length),(6,aC k)],
    [(48,⟨fc,4,false,false,some [m.v]⟩),(97,⟨yE,5,true,false,some (L.map Event.v)⟩)]⟩)
   (fun (k,L,_)=>k≤m.aU.length∧L.length≤1000*k) (fun (k,_)=>m.aU.length - k) (0,[],g) (by(refine⟨?_,?_⟩ <;>repeat' (first| exact True.intro| refine ai ?_| refine And.intro ?_ ?_))) ⟨by simp,by simp⟩ ?_
 clear g
 rintro⟨k,L,yE⟩ ⟨hk,hL⟩
 try dsimp only at hk hL
 by_cases bp:k<m.aU.length
 case neg=>
   (conv=>whnf);repeat' ((first| ((exfalso;omega)) | intro g| refine st ?_| (first| refine b1 ?_ ?_| refine b2 ?_ ?_| refine Br.mk ?_ ?_) <;>intro hc| exact rfl) <;>conv=>whnf)
   exact⟨L,by omega,rfl⟩
 obtain⟨e,he⟩: ∃e,m.aU[k]? =some e:=⟨_,aD bp⟩
 have hle:=h.el e (List.mem_of_getElem? he)
 have f1:=ij h e.id
 have f2:=hD e.left
 have f3:=hD e.right
 generalize mZ m.aU e.id=fe at f1
 generalize D e.left=dl at f2
 generalize D e.right=dr at f3
 (conv=>whnf);repeat' ((first| ((exfalso;omega)) | contradiction| intro g| refine aN.mk _ (al he rfl) ?_| refine ah.mk _ (f1) ?_| refine ah.mk _ (f2) ?_| refine ah.mk _ (f3) ?_| refine st ?_| (first| refine b1 ?_ ?_| refine b2 ?_ ?_| refine Br.mk ?_ ?_) <;>intro hc| exact rfl) <;>conv=>whnf)
 · exact aE.mk (k+1,L,yE) (by first| omega| (dsimp only;omega)) ⟨(by first| omega| (dsimp only;omega)),by omega⟩ (by(refine⟨?_,?_⟩ <;>repeat' (first| exact True.intro| refine ai ?_| refine And.intro ?_ ?_)))
 · exact aE.mk (k+1,L,yE) (by first| omega| (dsimp only;omega)) ⟨(by first| omega| (dsimp only;omega)),by omega⟩ (by(refine⟨?_,?_⟩ <;>repeat' (first| exact True.intro| refine ai ?_| refine And.intro ?_ ?_)))
 · exact aE.mk (k+1,L,yE) (by first| omega| (dsimp only;omega)) ⟨(by first| omega| (dsimp only;omega)),by omega⟩ (by(refine⟨?_,?_⟩ <;>repeat' (first| exact True.intro| refine ai ?_| refine And.intro ?_ ?_)))
 rename_i jY _ _
 clear f1 f2 f3
 refine aI.by (fun ((j,yF,W):Nat×Nat×List Event)=> ⟨[(1,vi d),(2,.ptr 48 fc 0 0),(5,.sl 97 yE 0 L.length),(6,aC k),(7,.ptr 128 jY 0 0),(8,.sl 145 yF 0 W.length),(9,aC (j+1))],
    [(48,⟨fc,4,false,false,some [m.v]⟩),(97,⟨yE,5,true,false,some (L.map Event.v)⟩),(128,⟨jY,4,false,false,some [e.v]⟩),(145,⟨yF,5,true,false,some (W.map Event.v)⟩)]⟩)
    (fun (j,_,W)=>W.length≤j∧(j=0∨j+1 <e.line.length)) (fun (j,_)=>e.line.length - j) (0,g,[]) (by(refine⟨?_,?_⟩ <;>repeat' (first| exact True.intro| refine ai ?_| refine And.intro ?_ ?_))) ⟨by simp,.inl rfl⟩ ?_
 clear g
 rintro⟨j,yF,W⟩ ⟨hW,hj⟩
 try dsimp only at hW hj
 by_cases kl:j+2 <e.line.length
 · exact HY h hle hW (fun T' O' g' W' M7 hs=>aE.mk (j+1,g',W') (by dsimp only;omega) ⟨M7,by right;omega⟩ hs) kl
 have w1:IntKind.i64.wrap (((j+1:Nat):Int)+1)=((j+2:Nat):Int):=(wrap64 (by omega) (by omega)).trans (by omega)
 clear hD
 (conv=>whnf);repeat' ((first| ((exfalso;omega)) | intro g| refine st ?_| (first| refine b1 ?_ ?_| refine b2 ?_ ?_| refine Br.mk ?_ ?_) <;>intro hc| exact rfl) <;>conv=>whnf)
 refine aI.by (fun (p:Nat)=> ⟨[(1,vi d),(2,.ptr 48 fc 0 0),(5,.sl 97 yE 0 L.length),(6,aC k),(7,.ptr 128 jY 0 0),(8,.sl 145 yF 0 W.length),(10,aC p)],
    [(48,⟨fc,4,false,false,some [m.v]⟩),(97,⟨yE,5,true,false,some (L.map Event.v)⟩),(128,⟨jY,4,false,false,some [e.v]⟩),(145,⟨yF,5,true,false,some (W.map Event.v)⟩)]⟩)
    (fun p=>p≤L.length) (fun p=>p) L.length (by(refine⟨?_,?_⟩ <;>repeat' (first| exact True.intro| refine ai ?_| refine And.intro ?_ ?_))) (Nat.le_refl _) ?_
 rintro p hp
 have hlL: (L.take p++W++L.drop p).length≤1000*(k+1):=by simp;omega
 by_cases zK:p=0
 · subst zK
   (conv=>whnf);repeat' ((first| ((exfalso;omega)) | intro g| refine aN.mk _ (yG) ?_| refine aN.mk _ (yH) ?_| refine aN.mk _ (kZ rfl) ?_| refine st ?_| (first| refine b1 ?_ ?_| refine b2 ?_ ?_| refine Br.mk ?_ ?_) <;>intro hc| exact rfl) <;>conv=>whnf)
   exact aE.mk (k+1,L.take 0++W++L.drop 0,g) (by dsimp only;omega) ⟨by omega,hlL⟩ (by(refine⟨?_,?_⟩ <;>repeat' (first| exact True.intro| refine ai ?_| refine And.intro ?_ ?_)))
 have wq:IntKind.i64.wrap ((p:Int) - 1)=((p - 1:Nat):Int):=(wrap64 (by omega) (by omega)).trans (by omega)
 obtain⟨y,hy⟩: ∃y,L[p - 1]? =some y:=⟨_,aD (by omega)⟩
 by_cases LI:e.id<y.id
 · (conv=>whnf);repeat' ((first| ((exfalso;omega)) | intro g| refine aN.mk _ (al hy wq) ?_| refine aN.mk _ (yG) ?_| refine aN.mk _ (yH) ?_| refine aN.mk _ (kZ rfl) ?_| refine st ?_| (first| refine b1 ?_ ?_| refine b2 ?_ ?_| refine Br.mk ?_ ?_) <;>intro hc| exact rfl) <;>conv=>whnf)
   exact aE.mk (p - 1) (by omega) (by omega) (by(refine⟨?_,?_⟩ <;>repeat' (first| exact True.intro| refine ai ?_| refine And.intro ?_ ?_)))
 · (conv=>whnf);repeat' ((first| ((exfalso;omega)) | intro g| refine aN.mk _ (al hy wq) ?_| refine aN.mk _ (yG) ?_| refine aN.mk _ (yH) ?_| refine aN.mk _ (kZ rfl) ?_| refine st ?_| (first| refine b1 ?_ ?_| refine b2 ?_ ?_| refine Br.mk ?_ ?_) <;>intro hc| exact rfl) <;>conv=>whnf)
   exact aE.mk (k+1,L.take p++W++L.drop p,g) (by dsimp only;omega) ⟨by omega,hlL⟩ (by(refine⟨?_,?_⟩ <;>repeat' (first| exact True.intro| refine ai ?_| refine And.intro ?_ ?_)))
end Go.AM
