/-
  Texts of the proof, joined by program: FlA, SOddA. Own work.
-/
import Derived.Test.YtinmckmdbepjcaaLb
import Derived.Test.YtinmckmdbepjcaaMe
set_option linter.unusedSimpArgs false
set_option linter.unusedVariables false
set_option maxRecDepth 20000
namespace Go.AM
def YY (m:aG):List Int:=m.ah.map ar.bg++m.ways.map Way.bg++m.aw.map Place.bg
def Zp (m:aG):List Int:=Hr (YY m)
theorem acR {L:List V} {M:V} {x:ar} {A:List Int} {n k g g1:Nat} {Q:aW→SS→Prop} (hx:L[k]? =some x.v) (hn:L.length=n) (hk:k<n) (hb:n< 1000) (hA:A.length< 10000)
  (hQ: ∀T' O' g',SS.Sub ⟨[(1,.ptr 32 g1 0 0),(3,.sl 65 g' 0 (A++[x.bg]).length),(11,.lit 5 L),(12,aF n),(13,aF (k+1))],[(32,⟨g1,4,false,false,some [M]⟩),(65,⟨g',1,true,false,some ((A++[x.bg]).map vi)⟩)]⟩ ⟨T',O'⟩→Q .normal ⟨T',O'⟩):
  gY E aaB ⟨[(1,.ptr 32 g1 0 0),(3,.sl 65 g 0 A.length),(11,.lit 5 L),(12,aF n),(13,aF k)],[(32,⟨g1,4,false,false,some [M]⟩),(65,⟨g,1,true,false,some (A.map vi)⟩)]⟩ Q:=by
 (conv=>whnf);repeat' ((first| intro g| refine aH.mk _ (hx) ?_| refine st ?_| (first| refine b1 ?_ ?_| refine b2 ?_ ?_| refine Br.mk ?_ ?_) <;>intro hc| exact rfl) <;>conv=>whnf)
 exact hQ _ _ _ (by(refine⟨?_,?_⟩ <;>repeat' (first| exact True.intro| refine ai ?_| refine And.intro ?_ ?_)))
theorem acS {L:List V} {M:V} {x:Way} {A:List Int} {n k g g1:Nat} {Q:aW→SS→Prop} (hx:L[k]? =some x.v) (hn:L.length=n) (hk:k<n) (hb:n< 1000) (hA:A.length< 10000)
  (hQ: ∀T' O' g',SS.Sub ⟨[(1,.ptr 32 g1 0 0),(3,.sl 65 g' 0 (A++[x.bg]).length),(24,.lit 8 L),(25,aF n),(26,aF (k+1))],[(32,⟨g1,4,false,false,some [M]⟩),(65,⟨g',1,true,false,some ((A++[x.bg]).map vi)⟩)]⟩ ⟨T',O'⟩→Q .normal ⟨T',O'⟩):
  gY E aaC ⟨[(1,.ptr 32 g1 0 0),(3,.sl 65 g 0 A.length),(24,.lit 8 L),(25,aF n),(26,aF k)],[(32,⟨g1,4,false,false,some [M]⟩),(65,⟨g,1,true,false,some (A.map vi)⟩)]⟩ Q:=by
 (conv=>whnf);repeat' ((first| intro g| refine aH.mk _ (hx) ?_| refine st ?_| (first| refine b1 ?_ ?_| refine b2 ?_ ?_| refine Br.mk ?_ ?_) <;>intro hc| exact rfl) <;>conv=>whnf)
 exact hQ _ _ _ (by(refine⟨?_,?_⟩ <;>repeat' (first| exact True.intro| refine ai ?_| refine And.intro ?_ ?_)))
theorem acT {L:List V} {M:V} {x:Place} {A:List Int} {n k g g1:Nat} {Q:aW→SS→Prop} (hx:L[k]? =some x.v) (hn:L.length=n) (hk:k<n) (hb:n< 1000) (hA:A.length< 10000)
  (hQ: ∀T' O' g',SS.Sub ⟨[(1,.ptr 32 g1 0 0),(3,.sl 65 g' 0 (A++[x.bg]).length),(37,.lit 7 L),(38,aF n),(39,aF (k+1))],[(32,⟨g1,4,false,false,some [M]⟩),(65,⟨g',1,true,false,some ((A++[x.bg]).map vi)⟩)]⟩ ⟨T',O'⟩→Q .normal ⟨T',O'⟩):
  gY E aaD ⟨[(1,.ptr 32 g1 0 0),(3,.sl 65 g 0 A.length),(37,.lit 7 L),(38,aF n),(39,aF k)],[(32,⟨g1,4,false,false,some [M]⟩),(65,⟨g,1,true,false,some (A.map vi)⟩)]⟩ Q:=by
 (conv=>whnf);repeat' ((first| intro g| refine aH.mk _ (hx) ?_| refine st ?_| (first| refine b1 ?_ ?_| refine b2 ?_ ?_| refine Br.mk ?_ ?_) <;>intro hc| exact rfl) <;>conv=>whnf)
 exact hQ _ _ _ (by(refine⟨?_,?_⟩ <;>repeat' (first| exact True.intro| refine ai ?_| refine And.intro ?_ ?_)))
theorem Ze {α β:Type} (f:α→β) {l:List α} {k:Nat} {x:α} (h:l[k]? =some x): (l.take (k+1)).map f=(l.take k).map f++[f x]:=by
 rw[List.take_add_one,h];simp
set_option maxHeartbeats 2000000 in
theorem aaT {m:aG} (hf:m.ah.length< 1000) (hw:m.ways.length< 1000) (hp:m.aw.length< 1000):Ev E 96 [m.v] ⟨.own 1 ((Zp m).map vi),[]⟩:=by
 refine Ev.bU acz (acA _) rfl ?_
 (conv=>whnf);repeat' ((first| intro g| refine st ?_| (first| refine b1 ?_ ?_| refine b2 ?_ ?_| refine Br.mk ?_ ?_) <;>intro hc| exact rfl) <;>conv=>whnf)
 rename_i g1
 refine ba.by (fun ((n,g):Nat×Nat)=> ⟨[(1,.ptr 32 g1 0 0),(3,.sl 65 g 0 ((m.ah.take n).map ar.bg).length),(11,.lit 5 (m.ah.map ar.v)),(12,aF m.ah.length),(13,aF n)],[(32,⟨g1,4,false,false,some [m.v]⟩),(65,⟨g,1,true,false,some (((m.ah.take n).map ar.bg).map vi)⟩)]⟩) (fun (n,_)=>n≤m.ah.length) (fun (n,_)=>m.ah.length - n) (0,g) ?_ (by simp) ?_
 · (refine⟨?_,?_⟩ <;>repeat' (first| exact True.intro| refine And.intro ((by(conv=>whnf);simp)) ?_| refine ai ?_| refine And.intro ?_ ?_))
 rintro⟨n,g⟩ hn
 try dsimp only at hn
 by_cases bk:n<m.ah.length
 · obtain⟨x,hx⟩: ∃x,m.ah[n]? =some x:=⟨_,aL bk⟩
   refine acR (aC hx rfl) (by simp) bk hf (by simp;omega) fun T' O' g' hs=>bc.mk (n+1,g') (by first| omega| (dsimp only;omega)) (by omega) ?_
   simp only[Ze ar.bg hx]
   exact hs
 obtain rfl:n=m.ah.length:=by omega
 dsimp only
 rw[List.take_length]
 (conv=>whnf);repeat' ((first| intro g| refine st ?_| (first| refine b1 ?_ ?_| refine b2 ?_ ?_| refine Br.mk ?_ ?_) <;>intro hc| exact rfl) <;>conv=>whnf)
 refine ba.by (fun ((n,g):Nat×Nat)=> ⟨[(1,.ptr 32 g1 0 0),(3,.sl 65 g 0 (m.ah.map ar.bg++(m.ways.take n).map Way.bg).length),(24,.lit 8 (m.ways.map Way.v)),(25,aF m.ways.length),(26,aF n)],[(32,⟨g1,4,false,false,some [m.v]⟩),(65,⟨g,1,true,false,some ((m.ah.map ar.bg++(m.ways.take n).map Way.bg).map vi)⟩)]⟩) (fun (n,_)=>n≤m.ways.length) (fun (n,_)=>m.ways.length - n) (0,g) ?_ (by simp) ?_
 · (refine⟨?_,?_⟩ <;>repeat' (first| exact True.intro| refine And.intro ((by(conv=>whnf);simp)) ?_| refine ai ?_| refine And.intro ?_ ?_))
 rintro⟨n,g⟩ hn
 try dsimp only at hn
 by_cases bk:n<m.ways.length
 · obtain⟨x,hx⟩: ∃x,m.ways[n]? =some x:=⟨_,aL bk⟩
   refine acS (aC hx rfl) (by simp) bk hw (by simp;omega) fun T' O' g' hs=>bc.mk (n+1,g') (by first| omega| (dsimp only;omega)) (by omega) ?_
   simp only[Ze Way.bg hx,←List.append_assoc]
   exact hs
 obtain rfl:n=m.ways.length:=by omega
 dsimp only
 rw[List.take_length]
 (conv=>whnf);repeat' ((first| intro g| refine st ?_| (first| refine b1 ?_ ?_| refine b2 ?_ ?_| refine Br.mk ?_ ?_) <;>intro hc| exact rfl) <;>conv=>whnf)
 refine ba.by (fun ((n,g):Nat×Nat)=> ⟨[(1,.ptr 32 g1 0 0),(3,.sl 65 g 0 (m.ah.map ar.bg++m.ways.map Way.bg++(m.aw.take n).map Place.bg).length),(37,.lit 7 (m.aw.map Place.v)),(38,aF m.aw.length),(39,aF n)],[(32,⟨g1,4,false,false,some [m.v]⟩),(65,⟨g,1,true,false,some ((m.ah.map ar.bg++m.ways.map Way.bg++(m.aw.take n).map Place.bg).map vi)⟩)]⟩) (fun (n,_)=>n≤m.aw.length) (fun (n,_)=>m.aw.length - n) (0,g) ?_ (by simp) ?_
 · (refine⟨?_,?_⟩ <;>repeat' (first| exact True.intro| refine And.intro ((by(conv=>whnf);simp)) ?_| refine ai ?_| refine And.intro ?_ ?_))
 rintro⟨n,g⟩ hn
 try dsimp only at hn
 by_cases bk:n<m.aw.length
 · obtain⟨x,hx⟩: ∃x,m.aw[n]? =some x:=⟨_,aL bk⟩
   refine acT (aC hx rfl) (by simp) bk hp (by simp;omega) fun T' O' g' hs=>bc.mk (n+1,g') (by first| omega| (dsimp only;omega)) (by omega) ?_
   simp only[Ze Place.bg hx,←List.append_assoc]
   exact hs
 obtain rfl:n=m.aw.length:=by omega
 dsimp only
 rw[List.take_length]
 have hl: (YY m).length< 1000000:=by simp[YY];omega
 have hd:m.ah.map ar.bg++m.ways.map Way.bg++m.aw.map Place.bg=YY m:=rfl
 rw[hd]
 unfold Zp Hr
 generalize YY m=D at*
 have h1:=HC hl
 have h2:=AA (S:=kH D) (by rw[nU];exact hl)
 rw[nU] at h2
 have R5:=iG D
 have Lu:=iG (kH D)
 have Lv:=iG (ei (kH D))
 (conv=>whnf);repeat' ((first| intro g| refine eY.mk (⟨rfl,rfl,rfl,by simp[nU],iG _⟩) ?_| refine eY.mk (⟨(vZ (kH D)).1,iG _⟩) ?_| refine aH.mk _ (E3 (kH D)) ?_| refine ag.mk _ (h1) ?_| refine ag.mk _ (h2) ?_| refine st ?_| (first| refine b1 ?_ ?_| refine b2 ?_ ?_| refine Br.mk ?_ ?_) <;>intro hc| exact rfl) <;>conv=>whnf)
end Go.AM
set_option maxRecDepth 20000
namespace Go.AM
theorem xj (ps:List Pt) (h:ps.length< 1000):Ev E 130 [iP ps] ⟨.own 2 (ps.map Pt.v),[]⟩:=by
 refine Ev.bU OC (OD _) rfl ?_
 (conv=>whnf);repeat' ((first| intro g| refine st ?_| (first| refine b1 ?_ ?_| refine b2 ?_ ?_| refine Br.mk ?_ ?_) <;>intro hc| exact rfl) <;>conv=>whnf)
theorem fv {α:Type} {l:List α} {k:Nat} {x:α} (h:l[k]? =some x):l.take (k+1)=l.take k++[x]:=by
 rw[List.take_add_one,h];rfl
set_option maxHeartbeats 4000000 in
theorem By {m:aG} (h1:m.an.length< 1000) (h2:m.ways.length< 1000) (h3:m.ah.length< 1000) (h4:m.aw.length< 1000) (h5: ∀e ∈ m.an,e.line.length< 1000) (h6: ∀w ∈ m.ways,w.line.length< 1000): ∃res,Ev E 92 [m.v] res∧ ∃e w,(e= .nils∧m.an=[]∨e= .own 4 (m.an.map Edge.v))∧(w= .nils∧m.ways=[]∨w= .own 8 (m.ways.map Way.v))∧res=⟨.agg [e,.own 5 (m.ah.map ar.v),w,.own 7 (m.aw.map Place.v)],[]⟩:=by
 refine Ev.cQ SO (SP _) rfl ?_
 (conv=>whnf);repeat' ((first| intro g| refine aH.mk _ (bz rfl) ?_| refine st ?_| (first| refine b1 ?_ ?_| refine b2 ?_ ?_| refine Br.mk ?_ ?_) <;>intro hc| exact rfl) <;>conv=>whnf)
 rename_i HL HM _ sV _ sW
 obtain⟨HN,PJ⟩: ∃x,x=g:=⟨_,rfl⟩
 rw[←PJ];clear PJ
 refine ba.by (fun ((k,L,ce):Nat×List Edge×Option Nat)=> ⟨[(1,.ptr 32 HL 0 0),(2,.ptr 48 HM 0 0),(3,.ptr 64 HN 0 0),(4,aF k)],
     match ce with
     | none=> [(32,⟨HL,4,false,false,some [m.v]⟩),(48,⟨HM,4,false,false,some [.agg [.lit 4 [],.lit 5 [],.lit 8 [],.lit 7 []]]⟩),(144,⟨sV,5,true,false,some (m.ah.map ar.v)⟩),(208,⟨sW,7,true,false,some (m.aw.map Place.v)⟩),(64,⟨HN,4,false,false,some [.agg [.nils,.sl 144 sV 0 m.ah.length,.nils,.sl 208 sW 0 m.aw.length]]⟩)]
     | some IQ=> [(32,⟨HL,4,false,false,some [m.v]⟩),(48,⟨HM,4,false,false,some [.agg [.lit 4 [],.lit 5 [],.lit 8 [],.lit 7 []]]⟩),(144,⟨sV,5,true,false,some (m.ah.map ar.v)⟩),(208,⟨sW,7,true,false,some (m.aw.map Place.v)⟩),(64,⟨HN,4,false,false,some [.agg [.sl 66 IQ 0 L.length,.sl 144 sV 0 m.ah.length,.nils,.sl 208 sW 0 m.aw.length]]⟩),(66,⟨IQ,4,true,false,some (L.map Edge.v)⟩)]⟩)
   (fun (k,L,ce)=>k≤m.an.length∧L.length=k∧L=m.an.take k∧(ce=none→L=[])) (fun (k,_)=>m.an.length - k) (0,[],none) (by(refine⟨?_,?_⟩ <;>repeat' (first| exact True.intro| refine ai ?_| refine And.intro ?_ ?_))) ⟨by simp,by simp,by simp,by simp⟩ ?_
 rintro⟨k,L,ce⟩ ⟨hk,hL,Te,R0⟩
 try dsimp only at hk hL Te R0
 by_cases bk:k<m.an.length
 · obtain⟨e,he⟩: ∃e,m.an[k]? =some e:=⟨_,aL bk⟩
   have hle:=xj e.line (h5 e (List.mem_of_getElem? he))
   have U3:L++[e]=m.an.take (k+1):=by rw[Te];exact(fv he).symm
   cases ce with
   | none=>
     obtain rfl:=R0 rfl
     (conv=>whnf);repeat' ((first| intro g| refine aH.mk _ (aC he rfl) ?_| refine ag.mk _ (hle) ?_| refine st ?_| (first| refine b1 ?_ ?_| refine b2 ?_ ?_| refine Br.mk ?_ ?_) <;>intro hc| exact rfl) <;>conv=>whnf)
     exact bc.mk (k+1,[e],some g) (by first| omega| (dsimp only;omega)) ⟨(by first| omega| (dsimp only;omega)),by simp at hL ⊢;omega,U3,by simp⟩ (by(refine⟨?_,?_⟩ <;>repeat' (first| exact True.intro| refine ai ?_| refine And.intro ?_ ?_)))
   | some IQ=>
     (conv=>whnf);repeat' ((first| intro g| refine aH.mk _ (aC he rfl) ?_| refine ag.mk _ (hle) ?_| refine st ?_| (first| refine b1 ?_ ?_| refine b2 ?_ ?_| refine Br.mk ?_ ?_) <;>intro hc| exact rfl) <;>conv=>whnf)
     exact bc.mk (k+1,L++[e],some g) (by first| omega| (dsimp only;omega)) ⟨(by first| omega| (dsimp only;omega)),by simp;omega,U3,by simp⟩ (by(refine⟨?_,?_⟩ <;>repeat' (first| exact True.intro| refine ai ?_| refine And.intro ?_ ?_)))
 · obtain rfl:L=m.an:=by rw[Te,List.take_of_length_le (by omega)]
   cases ce with
   | none=>
     (conv=>whnf);repeat' ((first| intro g| refine st ?_| (first| refine b1 ?_ ?_| refine b2 ?_ ?_| refine Br.mk ?_ ?_) <;>intro hc| exact rfl) <;>conv=>whnf)
     refine ba.by (fun ((j,K,cw):Nat×List Way×Option Nat)=> ⟨[(1,.ptr 32 HL 0 0),(2,.ptr 48 HM 0 0),(3,.ptr 64 HN 0 0),(6,aF j)],
     match cw with
     | none=> [(32,⟨HL,4,false,false,some [m.v]⟩),(48,⟨HM,4,false,false,some [.agg [.lit 4 [],.lit 5 [],.lit 8 [],.lit 7 []]]⟩),(144,⟨sV,5,true,false,some (m.ah.map ar.v)⟩),(208,⟨sW,7,true,false,some (m.aw.map Place.v)⟩),(64,⟨HN,4,false,false,some [.agg [.nils,.sl 144 sV 0 m.ah.length,.nils,.sl 208 sW 0 m.aw.length]]⟩)]
     | some HO=> [(32,⟨HL,4,false,false,some [m.v]⟩),(48,⟨HM,4,false,false,some [.agg [.lit 4 [],.lit 5 [],.lit 8 [],.lit 7 []]]⟩),(144,⟨sV,5,true,false,some (m.ah.map ar.v)⟩),(208,⟨sW,7,true,false,some (m.aw.map Place.v)⟩),(64,⟨HN,4,false,false,some [.agg [.nils,.sl 144 sV 0 m.ah.length,.sl 68 HO 0 K.length,.sl 208 sW 0 m.aw.length]]⟩),(68,⟨HO,8,true,false,some (K.map Way.v)⟩)]⟩)
       (fun (j,K,cw)=>j≤m.ways.length∧K.length=j∧K=m.ways.take j∧(cw=none→K=[])) (fun (j,_)=>m.ways.length - j) (0,[],none) (by(refine⟨?_,?_⟩ <;>repeat' (first| exact True.intro| refine ai ?_| refine And.intro ?_ ?_))) ⟨by simp,by simp,by simp,by simp⟩ ?_
     rintro⟨j,K,cw⟩ ⟨hj,hK,LL,LM⟩
     try dsimp only at hj hK LL LM
     by_cases Tf:j<m.ways.length
     · obtain⟨w,hw⟩: ∃w,m.ways[j]? =some w:=⟨_,aL Tf⟩
       have Ff:=xj w.line (h6 w (List.mem_of_getElem? hw))
       have PK:K++[w]=m.ways.take (j+1):=by rw[LL];exact(fv hw).symm
       cases cw with
       | none=>
         obtain rfl:=LM rfl
         (conv=>whnf);repeat' ((first| intro g| refine aH.mk _ (aC hw rfl) ?_| refine ag.mk _ (Ff) ?_| refine st ?_| (first| refine b1 ?_ ?_| refine b2 ?_ ?_| refine Br.mk ?_ ?_) <;>intro hc| exact rfl) <;>conv=>whnf)
         exact bc.mk (j+1,[w],some g) (by first| omega| (dsimp only;omega)) ⟨(by first| omega| (dsimp only;omega)),by simp at hK ⊢;omega,PK,by simp⟩ (by(refine⟨?_,?_⟩ <;>repeat' (first| exact True.intro| refine ai ?_| refine And.intro ?_ ?_)))
       | some HO=>
         (conv=>whnf);repeat' ((first| intro g| refine aH.mk _ (aC hw rfl) ?_| refine ag.mk _ (Ff) ?_| refine st ?_| (first| refine b1 ?_ ?_| refine b2 ?_ ?_| refine Br.mk ?_ ?_) <;>intro hc| exact rfl) <;>conv=>whnf)
         exact bc.mk (j+1,K++[w],some g) (by first| omega| (dsimp only;omega)) ⟨(by first| omega| (dsimp only;omega)),by simp;omega,PK,by simp⟩ (by(refine⟨?_,?_⟩ <;>repeat' (first| exact True.intro| refine ai ?_| refine And.intro ?_ ?_)))
     · obtain rfl:K=m.ways:=by rw[LL,List.take_of_length_le (by omega)]
       cases cw with
       | none=>
         (conv=>whnf);repeat' ((first| intro g| refine st ?_| (first| refine b1 ?_ ?_| refine b2 ?_ ?_| refine Br.mk ?_ ?_) <;>intro hc| exact rfl) <;>conv=>whnf)
         exact⟨_,_,.inl ⟨rfl,R0 rfl⟩,.inl ⟨rfl,LM rfl⟩,rfl⟩
       | some HO=>
         (conv=>whnf);repeat' ((first| intro g| refine st ?_| (first| refine b1 ?_ ?_| refine b2 ?_ ?_| refine Br.mk ?_ ?_) <;>intro hc| exact rfl) <;>conv=>whnf)
         exact⟨_,_,.inl ⟨rfl,R0 rfl⟩,.inr rfl,rfl⟩
   | some IQ=>
     (conv=>whnf);repeat' ((first| intro g| refine st ?_| (first| refine b1 ?_ ?_| refine b2 ?_ ?_| refine Br.mk ?_ ?_) <;>intro hc| exact rfl) <;>conv=>whnf)
     refine ba.by (fun ((j,K,cw):Nat×List Way×Option Nat)=> ⟨[(1,.ptr 32 HL 0 0),(2,.ptr 48 HM 0 0),(3,.ptr 64 HN 0 0),(6,aF j)],
     match cw with
     | none=> [(32,⟨HL,4,false,false,some [m.v]⟩),(48,⟨HM,4,false,false,some [.agg [.lit 4 [],.lit 5 [],.lit 8 [],.lit 7 []]]⟩),(144,⟨sV,5,true,false,some (m.ah.map ar.v)⟩),(208,⟨sW,7,true,false,some (m.aw.map Place.v)⟩),(64,⟨HN,4,false,false,some [.agg [.sl 66 IQ 0 m.an.length,.sl 144 sV 0 m.ah.length,.nils,.sl 208 sW 0 m.aw.length]]⟩),(66,⟨IQ,4,true,false,some (m.an.map Edge.v)⟩)]
     | some HO=> [(32,⟨HL,4,false,false,some [m.v]⟩),(48,⟨HM,4,false,false,some [.agg [.lit 4 [],.lit 5 [],.lit 8 [],.lit 7 []]]⟩),(144,⟨sV,5,true,false,some (m.ah.map ar.v)⟩),(208,⟨sW,7,true,false,some (m.aw.map Place.v)⟩),(64,⟨HN,4,false,false,some [.agg [.sl 66 IQ 0 m.an.length,.sl 144 sV 0 m.ah.length,.sl 68 HO 0 K.length,.sl 208 sW 0 m.aw.length]]⟩),(66,⟨IQ,4,true,false,some (m.an.map Edge.v)⟩),(68,⟨HO,8,true,false,some (K.map Way.v)⟩)]⟩)
       (fun (j,K,cw)=>j≤m.ways.length∧K.length=j∧K=m.ways.take j∧(cw=none→K=[])) (fun (j,_)=>m.ways.length - j) (0,[],none) (by(refine⟨?_,?_⟩ <;>repeat' (first| exact True.intro| refine ai ?_| refine And.intro ?_ ?_))) ⟨by simp,by simp,by simp,by simp⟩ ?_
     rintro⟨j,K,cw⟩ ⟨hj,hK,LL,LM⟩
     try dsimp only at hj hK LL LM
     by_cases Tf:j<m.ways.length
     · obtain⟨w,hw⟩: ∃w,m.ways[j]? =some w:=⟨_,aL Tf⟩
       have Ff:=xj w.line (h6 w (List.mem_of_getElem? hw))
       have PK:K++[w]=m.ways.take (j+1):=by rw[LL];exact(fv hw).symm
       cases cw with
       | none=>
         obtain rfl:=LM rfl
         (conv=>whnf);repeat' ((first| intro g| refine aH.mk _ (aC hw rfl) ?_| refine ag.mk _ (Ff) ?_| refine st ?_| (first| refine b1 ?_ ?_| refine b2 ?_ ?_| refine Br.mk ?_ ?_) <;>intro hc| exact rfl) <;>conv=>whnf)
         exact bc.mk (j+1,[w],some g) (by first| omega| (dsimp only;omega)) ⟨(by first| omega| (dsimp only;omega)),by simp at hK ⊢;omega,PK,by simp⟩ (by(refine⟨?_,?_⟩ <;>repeat' (first| exact True.intro| refine ai ?_| refine And.intro ?_ ?_)))
       | some HO=>
         (conv=>whnf);repeat' ((first| intro g| refine aH.mk _ (aC hw rfl) ?_| refine ag.mk _ (Ff) ?_| refine st ?_| (first| refine b1 ?_ ?_| refine b2 ?_ ?_| refine Br.mk ?_ ?_) <;>intro hc| exact rfl) <;>conv=>whnf)
         exact bc.mk (j+1,K++[w],some g) (by first| omega| (dsimp only;omega)) ⟨(by first| omega| (dsimp only;omega)),by simp;omega,PK,by simp⟩ (by(refine⟨?_,?_⟩ <;>repeat' (first| exact True.intro| refine ai ?_| refine And.intro ?_ ?_)))
     · obtain rfl:K=m.ways:=by rw[LL,List.take_of_length_le (by omega)]
       cases cw with
       | none=>
         (conv=>whnf);repeat' ((first| intro g| refine st ?_| (first| refine b1 ?_ ?_| refine b2 ?_ ?_| refine Br.mk ?_ ?_) <;>intro hc| exact rfl) <;>conv=>whnf)
         exact⟨_,_,.inr rfl,.inl ⟨rfl,LM rfl⟩,rfl⟩
       | some HO=>
         (conv=>whnf);repeat' ((first| intro g| refine st ?_| (first| refine b1 ?_ ?_| refine b2 ?_ ?_| refine Br.mk ?_ ?_) <;>intro hc| exact rfl) <;>conv=>whnf)
         exact⟨_,_,.inr rfl,.inr rfl,rfl⟩
end Go.AM
