/-
  Texts of the proof, joined by program: SOddA. Own work.
-/
import Derived.Test.YtkdfnbahehdhmaaGreatMe
set_option linter.unusedSimpArgs false
set_option linter.unusedVariables false
set_option maxRecDepth 20000
namespace Go.AM
theorem ye (ps:List Pt) (h:ps.length< 1000):Ev E 130 [dJ ps] ⟨.own 2 (ps.map Pt.v),[]⟩:=by
 refine Ev.aG UH (UI _) rfl ?_
 (conv=>whnf);repeat' ((first| intro g| refine st ?_| (first| refine b1 ?_ ?_| refine b2 ?_ ?_| refine Br.mk ?_ ?_) <;>intro hc| exact rfl) <;>conv=>whnf)
theorem dq (n:Nat): ∃s:Lx,Ev E 95 [aD n] ⟨.str s,[]⟩:=by
 have key:=Ev.cO (R:=fun res=> ∃s:Lx,res=⟨.str s,[]⟩) aaY (aaZ [aD n]) rfl ?_
 · obtain⟨res,h1,s,rfl⟩:=key
   exact⟨s,h1⟩
 obtain⟨k,hk,acX⟩: ∃k:Nat,(n:Int).tmod 10=(k:Int)∧k< 10:=by
   refine⟨((n:Int).tmod 10).toNat,?_,?_⟩
   · have:=Int.tmod_nonneg (b:=(10:Int)) (a:=(n:Int)) (by omega)
     omega
   · have:=Int.tmod_nonneg (b:=(10:Int)) (a:=(n:Int)) (by omega)
     have:=Int.tmod_lt_of_pos (n:Int) (show (0:Int) < 10 by decide)
     omega
 (conv=>whnf);repeat' ((first| intro g| refine st ?_| (first| refine b1 ?_ ?_| refine b2 ?_ ?_| refine Br.mk ?_ ?_) <;>intro hc| exact rfl) <;>conv=>whnf)
 rw[hk]
 rcases(by omega:k=0∨k=1∨k=2∨k=3∨k=4∨k=5∨k=6∨k=7∨k=8∨k=9) with rfl| rfl| rfl| rfl| rfl| rfl| rfl| rfl| rfl| rfl
 all_goals
   (conv=>whnf);repeat' ((first| intro g| refine st ?_| (first| refine b1 ?_ ?_| refine b2 ?_ ?_| refine Br.mk ?_ ?_) <;>intro hc| exact rfl) <;>conv=>whnf)
   exact⟨_,rfl⟩
theorem eo {α:Type} {l:List α} {k:Nat} {x:α} (h:l[k]? =some x):l.take (k+1)=l.take k++[x]:=by
 rw[List.take_add_one,h];rfl
set_option maxHeartbeats 4000000 in
theorem Jd {m:aQ} (h1:m.aH.length< 1000) (h2:m.ways.length< 1000) (h3:m.bn.length< 1000) (h4:m.aZ.length< 1000) (h5: ∀e ∈ m.aH,e.line.length< 1000) (h6: ∀w ∈ m.ways,w.line.length< 1000): ∃res,Ev E 92 [m.v] res∧ ∃e w,(e= .nils∧m.aH=[]∨e= .own 4 (m.aH.map Edge.v))∧(w= .nils∧m.ways=[]∨w= .own 8 (m.ways.map Way.v))∧res=⟨.agg [e,.own 5 (m.bn.map aI.v),w,.own 7 (m.aZ.map Place.v)],[]⟩:=by
 refine Ev.cO aaW (aaX _) rfl ?_
 (conv=>whnf);repeat' ((first| intro g| refine aL.mk _ (bC rfl) ?_| refine st ?_| (first| refine b1 ?_ ?_| refine b2 ?_ ?_| refine Br.mk ?_ ?_) <;>intro hc| exact rfl) <;>conv=>whnf)
 rename_i yf yY _ fp _ tH
 obtain⟨mC,GV⟩: ∃x,x=g:=⟨_,rfl⟩
 rw[←GV];clear GV
 refine aV.by (fun ((k,L,ce):Nat×List Edge×Option Nat)=> ⟨[(1,.ptr 32 yf 0 0),(2,.ptr 48 yY 0 0),(3,.ptr 64 mC 0 0),(4,aD k)],
     match ce with
     | none=> [(32,⟨yf,4,false,false,some [m.v]⟩),(48,⟨yY,4,false,false,some [.agg [.lit 4 [],.lit 5 [],.lit 8 [],.lit 7 []]]⟩),(144,⟨fp,5,true,false,some (m.bn.map aI.v)⟩),(208,⟨tH,7,true,false,some (m.aZ.map Place.v)⟩),(64,⟨mC,4,false,false,some [.agg [.nils,.sl 144 fp 0 m.bn.length,.nils,.sl 208 tH 0 m.aZ.length]]⟩)]
     | some zw=> [(32,⟨yf,4,false,false,some [m.v]⟩),(48,⟨yY,4,false,false,some [.agg [.lit 4 [],.lit 5 [],.lit 8 [],.lit 7 []]]⟩),(144,⟨fp,5,true,false,some (m.bn.map aI.v)⟩),(208,⟨tH,7,true,false,some (m.aZ.map Place.v)⟩),(64,⟨mC,4,false,false,some [.agg [.sl 66 zw 0 L.length,.sl 144 fp 0 m.bn.length,.nils,.sl 208 tH 0 m.aZ.length]]⟩),(66,⟨zw,4,true,false,some (L.map Edge.v)⟩)]⟩)
   (fun (k,L,ce)=>k≤m.aH.length∧L.length=k∧L=m.aH.take k∧(ce=none→L=[])) (fun (k,_)=>m.aH.length - k) (0,[],none) (by(refine⟨?_,?_⟩ <;>repeat' (first| exact True.intro| refine ai ?_| refine And.intro ?_ ?_))) ⟨by simp,by simp,by simp,by simp⟩ ?_
 rintro⟨k,L,ce⟩ ⟨hk,hL,Mh,Km⟩
 try dsimp only at hk hL Mh Km
 by_cases bl:k<m.aH.length
 · obtain⟨e,he⟩: ∃e,m.aH[k]? =some e:=⟨_,aE bl⟩
   have hle:=ye e.line (h5 e (List.mem_of_getElem? he))
   have Xg:L++[e]=m.aH.take (k+1):=by rw[Mh];exact(eo he).symm
   cases ce with
   | none=>
     obtain rfl:=Km rfl
     (conv=>whnf);repeat' ((first| intro g| refine aL.mk _ (aq he rfl) ?_| refine ag.mk _ (hle) ?_| refine st ?_| (first| refine b1 ?_ ?_| refine b2 ?_ ?_| refine Br.mk ?_ ?_) <;>intro hc| exact rfl) <;>conv=>whnf)
     exact a9.mk (k+1,[e],some g) (by first| omega| (dsimp only;omega)) ⟨(by first| omega| (dsimp only;omega)),by simp at hL ⊢;omega,Xg,by simp⟩ (by(refine⟨?_,?_⟩ <;>repeat' (first| exact True.intro| refine ai ?_| refine And.intro ?_ ?_)))
   | some zw=>
     (conv=>whnf);repeat' ((first| intro g| refine aL.mk _ (aq he rfl) ?_| refine ag.mk _ (hle) ?_| refine st ?_| (first| refine b1 ?_ ?_| refine b2 ?_ ?_| refine Br.mk ?_ ?_) <;>intro hc| exact rfl) <;>conv=>whnf)
     exact a9.mk (k+1,L++[e],some g) (by first| omega| (dsimp only;omega)) ⟨(by first| omega| (dsimp only;omega)),by simp;omega,Xg,by simp⟩ (by(refine⟨?_,?_⟩ <;>repeat' (first| exact True.intro| refine ai ?_| refine And.intro ?_ ?_)))
 · obtain rfl:L=m.aH:=by rw[Mh,List.take_of_length_le (by omega)]
   cases ce with
   | none=>
     (conv=>whnf);repeat' ((first| intro g| refine st ?_| (first| refine b1 ?_ ?_| refine b2 ?_ ?_| refine Br.mk ?_ ?_) <;>intro hc| exact rfl) <;>conv=>whnf)
     refine aV.by (fun ((j,K,cw):Nat×List Way×Option Nat)=> ⟨[(1,.ptr 32 yf 0 0),(2,.ptr 48 yY 0 0),(3,.ptr 64 mC 0 0),(6,aD j)],
     match cw with
     | none=> [(32,⟨yf,4,false,false,some [m.v]⟩),(48,⟨yY,4,false,false,some [.agg [.lit 4 [],.lit 5 [],.lit 8 [],.lit 7 []]]⟩),(144,⟨fp,5,true,false,some (m.bn.map aI.v)⟩),(208,⟨tH,7,true,false,some (m.aZ.map Place.v)⟩),(64,⟨mC,4,false,false,some [.agg [.nils,.sl 144 fp 0 m.bn.length,.nils,.sl 208 tH 0 m.aZ.length]]⟩)]
     | some BB=> [(32,⟨yf,4,false,false,some [m.v]⟩),(48,⟨yY,4,false,false,some [.agg [.lit 4 [],.lit 5 [],.lit 8 [],.lit 7 []]]⟩),(144,⟨fp,5,true,false,some (m.bn.map aI.v)⟩),(208,⟨tH,7,true,false,some (m.aZ.map Place.v)⟩),(64,⟨mC,4,false,false,some [.agg [.nils,.sl 144 fp 0 m.bn.length,.sl 68 BB 0 K.length,.sl 208 tH 0 m.aZ.length]]⟩),(68,⟨BB,8,true,false,some (K.map Way.v)⟩)]⟩)
       (fun (j,K,cw)=>j≤m.ways.length∧K.length=j∧K=m.ways.take j∧(cw=none→K=[])) (fun (j,_)=>m.ways.length - j) (0,[],none) (by(refine⟨?_,?_⟩ <;>repeat' (first| exact True.intro| refine ai ?_| refine And.intro ?_ ?_))) ⟨by simp,by simp,by simp,by simp⟩ ?_
     rintro⟨j,K,cw⟩ ⟨hj,hK,FK,FL⟩
     try dsimp only at hj hK FK FL
     by_cases SK:j<m.ways.length
     · obtain⟨w,hw⟩: ∃w,m.ways[j]? =some w:=⟨_,aE SK⟩
       have Es:=ye w.line (h6 w (List.mem_of_getElem? hw))
       have Mi:K++[w]=m.ways.take (j+1):=by rw[FK];exact(eo hw).symm
       cases cw with
       | none=>
         obtain rfl:=FL rfl
         (conv=>whnf);repeat' ((first| intro g| refine aL.mk _ (aq hw rfl) ?_| refine ag.mk _ (Es) ?_| refine st ?_| (first| refine b1 ?_ ?_| refine b2 ?_ ?_| refine Br.mk ?_ ?_) <;>intro hc| exact rfl) <;>conv=>whnf)
         exact a9.mk (j+1,[w],some g) (by first| omega| (dsimp only;omega)) ⟨(by first| omega| (dsimp only;omega)),by simp at hK ⊢;omega,Mi,by simp⟩ (by(refine⟨?_,?_⟩ <;>repeat' (first| exact True.intro| refine ai ?_| refine And.intro ?_ ?_)))
       | some BB=>
         (conv=>whnf);repeat' ((first| intro g| refine aL.mk _ (aq hw rfl) ?_| refine ag.mk _ (Es) ?_| refine st ?_| (first| refine b1 ?_ ?_| refine b2 ?_ ?_| refine Br.mk ?_ ?_) <;>intro hc| exact rfl) <;>conv=>whnf)
         exact a9.mk (j+1,K++[w],some g) (by first| omega| (dsimp only;omega)) ⟨(by first| omega| (dsimp only;omega)),by simp;omega,Mi,by simp⟩ (by(refine⟨?_,?_⟩ <;>repeat' (first| exact True.intro| refine ai ?_| refine And.intro ?_ ?_)))
     · obtain rfl:K=m.ways:=by rw[FK,List.take_of_length_le (by omega)]
       cases cw with
       | none=>
         (conv=>whnf);repeat' ((first| intro g| refine st ?_| (first| refine b1 ?_ ?_| refine b2 ?_ ?_| refine Br.mk ?_ ?_) <;>intro hc| exact rfl) <;>conv=>whnf)
         exact⟨_,_,.inl ⟨rfl,Km rfl⟩,.inl ⟨rfl,FL rfl⟩,rfl⟩
       | some BB=>
         (conv=>whnf);repeat' ((first| intro g| refine st ?_| (first| refine b1 ?_ ?_| refine b2 ?_ ?_| refine Br.mk ?_ ?_) <;>intro hc| exact rfl) <;>conv=>whnf)
         exact⟨_,_,.inl ⟨rfl,Km rfl⟩,.inr rfl,rfl⟩
   | some zw=>
     (conv=>whnf);repeat' ((first| intro g| refine st ?_| (first| refine b1 ?_ ?_| refine b2 ?_ ?_| refine Br.mk ?_ ?_) <;>intro hc| exact rfl) <;>conv=>whnf)
     refine aV.by (fun ((j,K,cw):Nat×List Way×Option Nat)=> ⟨[(1,.ptr 32 yf 0 0),(2,.ptr 48 yY 0 0),(3,.ptr 64 mC 0 0),(6,aD j)],
     match cw with
     | none=> [(32,⟨yf,4,false,false,some [m.v]⟩),(48,⟨yY,4,false,false,some [.agg [.lit 4 [],.lit 5 [],.lit 8 [],.lit 7 []]]⟩),(144,⟨fp,5,true,false,some (m.bn.map aI.v)⟩),(208,⟨tH,7,true,false,some (m.aZ.map Place.v)⟩),(64,⟨mC,4,false,false,some [.agg [.sl 66 zw 0 m.aH.length,.sl 144 fp 0 m.bn.length,.nils,.sl 208 tH 0 m.aZ.length]]⟩),(66,⟨zw,4,true,false,some (m.aH.map Edge.v)⟩)]
     | some BB=> [(32,⟨yf,4,false,false,some [m.v]⟩),(48,⟨yY,4,false,false,some [.agg [.lit 4 [],.lit 5 [],.lit 8 [],.lit 7 []]]⟩),(144,⟨fp,5,true,false,some (m.bn.map aI.v)⟩),(208,⟨tH,7,true,false,some (m.aZ.map Place.v)⟩),(64,⟨mC,4,false,false,some [.agg [.sl 66 zw 0 m.aH.length,.sl 144 fp 0 m.bn.length,.sl 68 BB 0 K.length,.sl 208 tH 0 m.aZ.length]]⟩),(66,⟨zw,4,true,false,some (m.aH.map Edge.v)⟩),(68,⟨BB,8,true,false,some (K.map Way.v)⟩)]⟩)
       (fun (j,K,cw)=>j≤m.ways.length∧K.length=j∧K=m.ways.take j∧(cw=none→K=[])) (fun (j,_)=>m.ways.length - j) (0,[],none) (by(refine⟨?_,?_⟩ <;>repeat' (first| exact True.intro| refine ai ?_| refine And.intro ?_ ?_))) ⟨by simp,by simp,by simp,by simp⟩ ?_
     rintro⟨j,K,cw⟩ ⟨hj,hK,FK,FL⟩
     try dsimp only at hj hK FK FL
     by_cases SK:j<m.ways.length
     · obtain⟨w,hw⟩: ∃w,m.ways[j]? =some w:=⟨_,aE SK⟩
       have Es:=ye w.line (h6 w (List.mem_of_getElem? hw))
       have Mi:K++[w]=m.ways.take (j+1):=by rw[FK];exact(eo hw).symm
       cases cw with
       | none=>
         obtain rfl:=FL rfl
         (conv=>whnf);repeat' ((first| intro g| refine aL.mk _ (aq hw rfl) ?_| refine ag.mk _ (Es) ?_| refine st ?_| (first| refine b1 ?_ ?_| refine b2 ?_ ?_| refine Br.mk ?_ ?_) <;>intro hc| exact rfl) <;>conv=>whnf)
         exact a9.mk (j+1,[w],some g) (by first| omega| (dsimp only;omega)) ⟨(by first| omega| (dsimp only;omega)),by simp at hK ⊢;omega,Mi,by simp⟩ (by(refine⟨?_,?_⟩ <;>repeat' (first| exact True.intro| refine ai ?_| refine And.intro ?_ ?_)))
       | some BB=>
         (conv=>whnf);repeat' ((first| intro g| refine aL.mk _ (aq hw rfl) ?_| refine ag.mk _ (Es) ?_| refine st ?_| (first| refine b1 ?_ ?_| refine b2 ?_ ?_| refine Br.mk ?_ ?_) <;>intro hc| exact rfl) <;>conv=>whnf)
         exact a9.mk (j+1,K++[w],some g) (by first| omega| (dsimp only;omega)) ⟨(by first| omega| (dsimp only;omega)),by simp;omega,Mi,by simp⟩ (by(refine⟨?_,?_⟩ <;>repeat' (first| exact True.intro| refine ai ?_| refine And.intro ?_ ?_)))
     · obtain rfl:K=m.ways:=by rw[FK,List.take_of_length_le (by omega)]
       cases cw with
       | none=>
         (conv=>whnf);repeat' ((first| intro g| refine st ?_| (first| refine b1 ?_ ?_| refine b2 ?_ ?_| refine Br.mk ?_ ?_) <;>intro hc| exact rfl) <;>conv=>whnf)
         exact⟨_,_,.inr rfl,.inl ⟨rfl,FL rfl⟩,rfl⟩
       | some BB=>
         (conv=>whnf);repeat' ((first| intro g| refine st ?_| (first| refine b1 ?_ ?_| refine b2 ?_ ?_| refine Br.mk ?_ ?_) <;>intro hc| exact rfl) <;>conv=>whnf)
         exact⟨_,_,.inr rfl,.inr rfl,rfl⟩
end Go.AM
