/-
  Texts of the proof, joined by program: SOddA. Own work.
-/
import Derived.Test.YtinmckmdbepjcaaGreatMe
set_option linter.unusedSimpArgs false
set_option linter.unusedVariables false
set_option maxRecDepth 20000
namespace Go.AM
theorem xj (ps:List Pt) (h:ps.length< 1000):Ev E 130 [iP ps] ⟨.own 2 (ps.map Pt.v),[]⟩:=by
 refine Ev.bU OC (OD _) rfl ?_
 (conv=>whnf);repeat' ((first| intro g| refine st ?_| (first| refine b1 ?_ ?_| refine b2 ?_ ?_| refine Br.mk ?_ ?_) <;>intro hc| exact rfl) <;>conv=>whnf)
theorem dt (n:Nat): ∃s:EC,Ev E 95 [aF n] ⟨.str s,[]⟩:=by
 have key:=Ev.cQ (R:=fun res=> ∃s:EC,res=⟨.str s,[]⟩) SQ (SR [aF n]) rfl ?_
 · obtain⟨res,h1,s,rfl⟩:=key
   exact⟨s,h1⟩
 obtain⟨k,hk,Wn⟩: ∃k:Nat,(n:Int).tmod 10=(k:Int)∧k< 10:=by
   refine⟨((n:Int).tmod 10).toNat,?_,?_⟩
   · have:=Int.tmod_nonneg (b:=(10:Int)) (a:=(n:Int)) (by omega)
     omega
   · have:=Int.tmod_nonneg (b:=(10:Int)) (a:=(n:Int)) (by omega)
     have:=Int.tmod_lt_of_pos (n:Int) (show (0:Int) < 10 by decide)
     omega
 (conv=>whnf);repeat' ((first| intro g| refine st ?_| (first| refine b1 ?_ ?_| refine b2 ?_ ?_| refine Br.mk ?_ ?_) <;>intro hc| exact rfl) <;>conv=>whnf)
 rw[hk]
 rcases(by omega:k=0∨k=1∨k=2∨k=3∨k=4∨k=5∨k=6∨k=7∨k=8∨k=9) with rfl| rfl| rfl| rfl| rfl| rfl| rfl| rfl| rfl| rfl
 all_goals
   (conv=>whnf);repeat' ((first| intro g| refine st ?_| (first| refine b1 ?_ ?_| refine b2 ?_ ?_| refine Br.mk ?_ ?_) <;>intro hc| exact rfl) <;>conv=>whnf)
   exact⟨_,rfl⟩
theorem fv {α:Type} {l:List α} {k:Nat} {x:α} (h:l[k]? =some x):l.take (k+1)=l.take k++[x]:=by
 rw[List.take_add_one,h];rfl
set_option maxHeartbeats 4000000 in
theorem By {m:aG} (h1:m.an.length< 1000) (h2:m.ways.length< 1000) (h3:m.ah.length< 1000) (h4:m.aw.length< 1000) (h5: ∀e ∈ m.an,e.line.length< 1000) (h6: ∀w ∈ m.ways,w.line.length< 1000): ∃res,Ev E 92 [m.v] res∧ ∃e w,(e= .nils∧m.an=[]∨e= .own 4 (m.an.map Edge.v))∧(w= .nils∧m.ways=[]∨w= .own 8 (m.ways.map Way.v))∧res=⟨.agg [e,.own 5 (m.ah.map ar.v),w,.own 7 (m.aw.map Place.v)],[]⟩:=by
 refine Ev.cQ SO (SP _) rfl ?_
 (conv=>whnf);repeat' ((first| intro g| refine aH.mk _ (bz rfl) ?_| refine st ?_| (first| refine b1 ?_ ?_| refine b2 ?_ ?_| refine Br.mk ?_ ?_) <;>intro hc| exact rfl) <;>conv=>whnf)
 rename_i HL HM _ sV _ sW
 obtain⟨HN,PJ⟩: ∃x,x=g:=⟨_,rfl⟩
 rw[←PJ];clear PJ
 refine ba.by (fun ((k,L,ce):Nat×List Edge×Option Nat)=> ⟨[(1,.ptr 32 HL 0 0),(2,.ptr 48 HM 0 0),(3,.ptr 64 HN 0 0),(4,aF k)],
     match ce with
     | none=> [(32,⟨HL,4,false,false,some [m.v]⟩),(48,⟨HM,4,false,false,some [.agg [.lit 4 [],.lit 5 [],.lit 8 [],.lit 7 []]]⟩),(144,⟨sV,5,true,false,some (m.ah.map ar.v)⟩),(208,⟨sW,7,true,false,some (m.aw.map Place.v)⟩),(64,⟨HN,4,false,false,some [.agg [.nils,.sl 144 sV 0 m.ah.length,.nils,.sl 208 sW 0 m.aw.length]]⟩)]
     | some IQ=> [(32,⟨HL,4,false,false,some [m.v]⟩),(48,⟨HM,4,false,false,some [.agg [.lit 4 [],.lit 5 [],.lit 8 [],.lit 7 []]]⟩),(144,⟨sV,5,true,false,some (m.ah.map ar.v)⟩),(208,⟨sW,7,true,false,some (m.aw.map Place.v)⟩),(64,⟨HN,4,false,false,some [.agg [.sl 66 IQ 0 L.length,.sl 144 sV 0 m.ah.length,.nils,.sl 208 sW 0 m.aw.length]]⟩),(66,⟨IQ,4,true,false,some (L.map Edge.v)⟩)]⟩)
   (fun (k,L,ce)=>k≤m.an.length∧L.length=k∧L=m.an.take k∧(ce=none→L=[])) (fun (k,_)=>m.an.length - k) (0,[],none) (by(refine⟨?_,?_⟩ <;>repeat' (first| exact True.intro| refine ai ?_| refine And.intro ?_ ?_))) ⟨by simp,by simp,by simp,by simp⟩ ?_
 rintro⟨k,L,ce⟩ ⟨hk,hL,Te,R0⟩
 try dsimp only at hk hL Te R0
 by_cases bk:k<m.an.length
 · obtain⟨e,he⟩: ∃e,m.an[k]? =some e:=⟨_,aL bk⟩
   have hle:=xj e.line (h5 e (List.mem_of_getElem? he))
   have U3:L++[e]=m.an.take (k+1):=by rw[Te];exact(fv he).symm
   cases ce with
   | none=>
     obtain rfl:=R0 rfl
     (conv=>whnf);repeat' ((first| intro g| refine aH.mk _ (aC he rfl) ?_| refine ag.mk _ (hle) ?_| refine st ?_| (first| refine b1 ?_ ?_| refine b2 ?_ ?_| refine Br.mk ?_ ?_) <;>intro hc| exact rfl) <;>conv=>whnf)
     exact bc.mk (k+1,[e],some g) (by first| omega| (dsimp only;omega)) ⟨(by first| omega| (dsimp only;omega)),by simp at hL ⊢;omega,U3,by simp⟩ (by(refine⟨?_,?_⟩ <;>repeat' (first| exact True.intro| refine ai ?_| refine And.intro ?_ ?_)))
   | some IQ=>
     (conv=>whnf);repeat' ((first| intro g| refine aH.mk _ (aC he rfl) ?_| refine ag.mk _ (hle) ?_| refine st ?_| (first| refine b1 ?_ ?_| refine b2 ?_ ?_| refine Br.mk ?_ ?_) <;>intro hc| exact rfl) <;>conv=>whnf)
     exact bc.mk (k+1,L++[e],some g) (by first| omega| (dsimp only;omega)) ⟨(by first| omega| (dsimp only;omega)),by simp;omega,U3,by simp⟩ (by(refine⟨?_,?_⟩ <;>repeat' (first| exact True.intro| refine ai ?_| refine And.intro ?_ ?_)))
 · obtain rfl:L=m.an:=by rw[Te,List.take_of_length_le (by omega)]
   cases ce with
   | none=>
     (conv=>whnf);repeat' ((first| intro g| refine st ?_| (first| refine b1 ?_ ?_| refine b2 ?_ ?_| refine Br.mk ?_ ?_) <;>intro hc| exact rfl) <;>conv=>whnf)
     refine ba.by (fun ((j,K,cw):Nat×List Way×Option Nat)=> ⟨[(1,.ptr 32 HL 0 0),(2,.ptr 48 HM 0 0),(3,.ptr 64 HN 0 0),(6,aF j)],
     match cw with
     | none=> [(32,⟨HL,4,false,false,some [m.v]⟩),(48,⟨HM,4,false,false,some [.agg [.lit 4 [],.lit 5 [],.lit 8 [],.lit 7 []]]⟩),(144,⟨sV,5,true,false,some (m.ah.map ar.v)⟩),(208,⟨sW,7,true,false,some (m.aw.map Place.v)⟩),(64,⟨HN,4,false,false,some [.agg [.nils,.sl 144 sV 0 m.ah.length,.nils,.sl 208 sW 0 m.aw.length]]⟩)]
     | some HO=> [(32,⟨HL,4,false,false,some [m.v]⟩),(48,⟨HM,4,false,false,some [.agg [.lit 4 [],.lit 5 [],.lit 8 [],.lit 7 []]]⟩),(144,⟨sV,5,true,false,some (m.ah.map ar.v)⟩),(208,⟨sW,7,true,false,some (m.aw.map Place.v)⟩),(64,⟨HN,4,false,false,some [.agg [.nils,.sl 144 sV 0 m.ah.length,.sl 68 HO 0 K.length,.sl 208 sW 0 m.aw.length]]⟩),(68,⟨HO,8,true,false,some (K.map Way.v)⟩)]⟩)
       (fun (j,K,cw)=>j≤m.ways.length∧K.length=j∧K=m.ways.take j∧(cw=none→K=[])) (fun (j,_)=>m.ways.length - j) (0,[],none) (by(refine⟨?_,?_⟩ <;>repeat' (first| exact True.intro| refine ai ?_| refine And.intro ?_ ?_))) ⟨by simp,by simp,by simp,by simp⟩ ?_
     rintro⟨j,K,cw⟩ ⟨hj,hK,LL,LM⟩
     try dsimp only at hj hK LL LM
     by_cases Tf:j<m.ways.length
     · obtain⟨w,hw⟩: ∃w,m.ways[j]? =some w:=⟨_,aL Tf⟩
       have Ff:=xj w.line (h6 w (List.mem_of_getElem? hw))
       have PK:K++[w]=m.ways.take (j+1):=by rw[LL];exact(fv hw).symm
       cases cw with
       | none=>
         obtain rfl:=LM rfl
         (conv=>whnf);repeat' ((first| intro g| refine aH.mk _ (aC hw rfl) ?_| refine ag.mk _ (Ff) ?_| refine st ?_| (first| refine b1 ?_ ?_| refine b2 ?_ ?_| refine Br.mk ?_ ?_) <;>intro hc| exact rfl) <;>conv=>whnf)
         exact bc.mk (j+1,[w],some g) (by first| omega| (dsimp only;omega)) ⟨(by first| omega| (dsimp only;omega)),by simp at hK ⊢;omega,PK,by simp⟩ (by(refine⟨?_,?_⟩ <;>repeat' (first| exact True.intro| refine ai ?_| refine And.intro ?_ ?_)))
       | some HO=>
         (conv=>whnf);repeat' ((first| intro g| refine aH.mk _ (aC hw rfl) ?_| refine ag.mk _ (Ff) ?_| refine st ?_| (first| refine b1 ?_ ?_| refine b2 ?_ ?_| refine Br.mk ?_ ?_) <;>intro hc| exact rfl) <;>conv=>whnf)
         exact bc.mk (j+1,K++[w],some g) (by first| omega| (dsimp only;omega)) ⟨(by first| omega| (dsimp only;omega)),by simp;omega,PK,by simp⟩ (by(refine⟨?_,?_⟩ <;>repeat' (first| exact True.intro| refine ai ?_| refine And.intro ?_ ?_)))
     · obtain rfl:K=m.ways:=by rw[LL,List.take_of_length_le (by omega)]
       cases cw with
       | none=>
         (conv=>whnf);repeat' ((first| intro g| refine st ?_| (first| refine b1 ?_ ?_| refine b2 ?_ ?_| refine Br.mk ?_ ?_) <;>intro hc| exact rfl) <;>conv=>whnf)
         exact⟨_,_,.inl ⟨rfl,R0 rfl⟩,.inl ⟨rfl,LM rfl⟩,rfl⟩
       | some HO=>
         (conv=>whnf);repeat' ((first| intro g| refine st ?_| (first| refine b1 ?_ ?_| refine b2 ?_ ?_| refine Br.mk ?_ ?_) <;>intro hc| exact rfl) <;>conv=>whnf)
         exact⟨_,_,.inl ⟨rfl,R0 rfl⟩,.inr rfl,rfl⟩
   | some IQ=>
     (conv=>whnf);repeat' ((first| intro g| refine st ?_| (first| refine b1 ?_ ?_| refine b2 ?_ ?_| refine Br.mk ?_ ?_) <;>intro hc| exact rfl) <;>conv=>whnf)
     refine ba.by (fun ((j,K,cw):Nat×List Way×Option Nat)=> ⟨[(1,.ptr 32 HL 0 0),(2,.ptr 48 HM 0 0),(3,.ptr 64 HN 0 0),(6,aF j)],
     match cw with
     | none=> [(32,⟨HL,4,false,false,some [m.v]⟩),(48,⟨HM,4,false,false,some [.agg [.lit 4 [],.lit 5 [],.lit 8 [],.lit 7 []]]⟩),(144,⟨sV,5,true,false,some (m.ah.map ar.v)⟩),(208,⟨sW,7,true,false,some (m.aw.map Place.v)⟩),(64,⟨HN,4,false,false,some [.agg [.sl 66 IQ 0 m.an.length,.sl 144 sV 0 m.ah.length,.nils,.sl 208 sW 0 m.aw.length]]⟩),(66,⟨IQ,4,true,false,some (m.an.map Edge.v)⟩)]
     | some HO=> [(32,⟨HL,4,false,false,some [m.v]⟩),(48,⟨HM,4,false,false,some [.agg [.lit 4 [],.lit 5 [],.lit 8 [],.lit 7 []]]⟩),(144,⟨sV,5,true,false,some (m.ah.map ar.v)⟩),(208,⟨sW,7,true,false,some (m.aw.map Place.v)⟩),(64,⟨HN,4,false,false,some [.agg [.sl 66 IQ 0 m.an.length,.sl 144 sV 0 m.ah.length,.sl 68 HO 0 K.length,.sl 208 sW 0 m.aw.length]]⟩),(66,⟨IQ,4,true,false,some (m.an.map Edge.v)⟩),(68,⟨HO,8,true,false,some (K.map Way.v)⟩)]⟩)
       (fun (j,K,cw)=>j≤m.ways.length∧K.length=j∧K=m.ways.take j∧(cw=none→K=[])) (fun (j,_)=>m.ways.length - j) (0,[],none) (by(refine⟨?_,?_⟩ <;>repeat' (first| exact True.intro| refine ai ?_| refine And.intro ?_ ?_))) ⟨by simp,by simp,by simp,by simp⟩ ?_
     rintro⟨j,K,cw⟩ ⟨hj,hK,LL,LM⟩
     try dsimp only at hj hK LL LM
     by_cases Tf:j<m.ways.length
     · obtain⟨w,hw⟩: ∃w,m.ways[j]? =some w:=⟨_,aL Tf⟩
       have Ff:=xj w.line (h6 w (List.mem_of_getElem? hw))
       have PK:K++[w]=m.ways.take (j+1):=by rw[LL];exact(fv hw).symm
       cases cw with
       | none=>
         obtain rfl:=LM rfl
         (conv=>whnf);repeat' ((first| intro g| refine aH.mk _ (aC hw rfl) ?_| refine ag.mk _ (Ff) ?_| refine st ?_| (first| refine b1 ?_ ?_| refine b2 ?_ ?_| refine Br.mk ?_ ?_) <;>intro hc| exact rfl) <;>conv=>whnf)
         exact bc.mk (j+1,[w],some g) (by first| omega| (dsimp only;omega)) ⟨(by first| omega| (dsimp only;omega)),by simp at hK ⊢;omega,PK,by simp⟩ (by(refine⟨?_,?_⟩ <;>repeat' (first| exact True.intro| refine ai ?_| refine And.intro ?_ ?_)))
       | some HO=>
         (conv=>whnf);repeat' ((first| intro g| refine aH.mk _ (aC hw rfl) ?_| refine ag.mk _ (Ff) ?_| refine st ?_| (first| refine b1 ?_ ?_| refine b2 ?_ ?_| refine Br.mk ?_ ?_) <;>intro hc| exact rfl) <;>conv=>whnf)
         exact bc.mk (j+1,K++[w],some g) (by first| omega| (dsimp only;omega)) ⟨(by first| omega| (dsimp only;omega)),by simp;omega,PK,by simp⟩ (by(refine⟨?_,?_⟩ <;>repeat' (first| exact True.intro| refine ai ?_| refine And.intro ?_ ?_)))
     · obtain rfl:K=m.ways:=by rw[LL,List.take_of_length_le (by omega)]
       cases cw with
       | none=>
         (conv=>whnf);repeat' ((first| intro g| refine st ?_| (first| refine b1 ?_ ?_| refine b2 ?_ ?_| refine Br.mk ?_ ?_) <;>intro hc| exact rfl) <;>conv=>whnf)
         exact⟨_,_,.inr rfl,.inl ⟨rfl,LM rfl⟩,rfl⟩
       | some HO=>
         (conv=>whnf);repeat' ((first| intro g| refine st ?_| (first| refine b1 ?_ ?_| refine b2 ?_ ?_| refine Br.mk ?_ ?_) <;>intro hc| exact rfl) <;>conv=>whnf)
         exact⟨_,_,.inr rfl,.inr rfl,rfl⟩
end Go.AM
