/-
  Texts of the proof, joined by program: SOddA. Own work.
-/
import Derived.Test.YtgkdgapmmkkcaaaGreatMe
set_option linter.unusedSimpArgs false
set_option linter.unusedVariables false
set_option maxRecDepth 20000
namespace Go.AM
theorem vI (ps:List Pt) (h:ps.length< 1000):Ev E 130 [wB ps] ⟨.own 2 (ps.map Pt.v),[]⟩:=by
 refine Ev.cY Pn (Po _) rfl ?_
 (conv=>whnf);repeat' ((first| intro g| refine st ?_| (first| refine b1 ?_ ?_| refine b2 ?_ ?_| refine Br.mk ?_ ?_) <;>intro hc| exact rfl) <;>conv=>whnf)
theorem dc (n:Nat): ∃s:eX,Ev E 95 [aT n] ⟨.str s,[]⟩:=by
 have key:=Ev.cQ (R:=fun res=> ∃s:eX,res=⟨.str s,[]⟩) Vs (Vt [aT n]) rfl ?_
 · obtain⟨res,h1,s,rfl⟩:=key
   exact⟨s,h1⟩
 obtain⟨k,hk,Yv⟩: ∃k:Nat,(n:Int).tmod 10=(k:Int)∧k< 10:=by
   refine⟨((n:Int).tmod 10).toNat,?_,?_⟩
   · have:=Int.tmod_nonneg (b:=(10:Int)) (a:=(n:Int)) (by omega)
     omega
   · have:=Int.tmod_nonneg (b:=(10:Int)) (a:=(n:Int)) (by omega)
     have:=Int.tmod_lt_of_pos (n:Int) (show (0:Int) < 10 by decide)
     omega
 (conv=>whnf);repeat' ((first| intro g| refine st ?_| (first| refine b1 ?_ ?_| refine b2 ?_ ?_| refine Br.mk ?_ ?_) <;>intro hc| exact rfl) <;>conv=>whnf)
 rw[hk]
 rcases(by omega:k=0∨k=1∨k=2∨k=3∨k=4∨k=5∨k=6∨k=7∨k=8∨k=9) with rfl| rfl| rfl| rfl| rfl| rfl| rfl| rfl| rfl| rfl
 all_goals
   (conv=>whnf);repeat' ((first| intro g| refine st ?_| (first| refine b1 ?_ ?_| refine b2 ?_ ?_| refine Br.mk ?_ ?_) <;>intro hc| exact rfl) <;>conv=>whnf)
   exact⟨_,rfl⟩
theorem eU {α:Type} {l:List α} {k:Nat} {x:α} (h:l[k]? =some x):l.take (k+1)=l.take k++[x]:=by
 rw[List.take_add_one,h];rfl
set_option maxHeartbeats 4000000 in
theorem El {m:br} (h1:m.bZ.length< 1000) (h2:m.ways.length< 1000) (h3:m.bp.length< 1000) (h4:m.aW.length< 1000) (h5: ∀e ∈ m.bZ,e.line.length< 1000) (h6: ∀w ∈ m.ways,w.line.length< 1000): ∃res,Ev E 92 [m.v] res∧ ∃e w,(e= .nils∧m.bZ=[]∨e= .own 4 (m.bZ.map Edge.v))∧(w= .nils∧m.ways=[]∨w= .own 8 (m.ways.map Way.v))∧res=⟨.agg [e,.own 5 (m.bp.map aK.v),w,.own 7 (m.aW.map Place.v)],[]⟩:=by
 refine Ev.cQ Vq (Vr _) rfl ?_
 (conv=>whnf);repeat' ((first| intro g| refine aL.mk _ (bl rfl) ?_| refine st ?_| (first| refine b1 ?_ ?_| refine b2 ?_ ?_| refine Br.mk ?_ ?_) <;>intro hc| exact rfl) <;>conv=>whnf)
 rename_i FA sI _ rG _ rH
 obtain⟨sJ,Qm⟩: ∃x,x=g:=⟨_,rfl⟩
 rw[←Qm];clear Qm
 refine ba.by (fun ((k,L,ce):Nat×List Edge×Option Nat)=> ⟨[(1,.ptr 32 FA 0 0),(2,.ptr 48 sI 0 0),(3,.ptr 64 sJ 0 0),(4,aT k)],
     match ce with
     | none=> [(32,⟨FA,4,false,false,some [m.v]⟩),(48,⟨sI,4,false,false,some [.agg [.lit 4 [],.lit 5 [],.lit 8 [],.lit 7 []]]⟩),(144,⟨rG,5,true,false,some (m.bp.map aK.v)⟩),(208,⟨rH,7,true,false,some (m.aW.map Place.v)⟩),(64,⟨sJ,4,false,false,some [.agg [.nils,.sl 144 rG 0 m.bp.length,.nils,.sl 208 rH 0 m.aW.length]]⟩)]
     | some GG=> [(32,⟨FA,4,false,false,some [m.v]⟩),(48,⟨sI,4,false,false,some [.agg [.lit 4 [],.lit 5 [],.lit 8 [],.lit 7 []]]⟩),(144,⟨rG,5,true,false,some (m.bp.map aK.v)⟩),(208,⟨rH,7,true,false,some (m.aW.map Place.v)⟩),(64,⟨sJ,4,false,false,some [.agg [.sl 66 GG 0 L.length,.sl 144 rG 0 m.bp.length,.nils,.sl 208 rH 0 m.aW.length]]⟩),(66,⟨GG,4,true,false,some (L.map Edge.v)⟩)]⟩)
   (fun (k,L,ce)=>k≤m.bZ.length∧L.length=k∧L=m.bZ.take k∧(ce=none→L=[])) (fun (k,_)=>m.bZ.length - k) (0,[],none) (by(refine⟨?_,?_⟩ <;>repeat' (first| exact True.intro| refine ai ?_| refine And.intro ?_ ?_))) ⟨by simp,by simp,by simp,by simp⟩ ?_
 rintro⟨k,L,ce⟩ ⟨hk,hL,VF,UB⟩
 try dsimp only at hk hL VF UB
 by_cases bA:k<m.bZ.length
 · obtain⟨e,he⟩: ∃e,m.bZ[k]? =some e:=⟨_,aJ bA⟩
   have hle:=vI e.line (h5 e (List.mem_of_getElem? he))
   have Xp:L++[e]=m.bZ.take (k+1):=by rw[VF];exact(eU he).symm
   cases ce with
   | none=>
     obtain rfl:=UB rfl
     (conv=>whnf);repeat' ((first| intro g| refine aL.mk _ (au he rfl) ?_| refine ag.mk _ (hle) ?_| refine st ?_| (first| refine b1 ?_ ?_| refine b2 ?_ ?_| refine Br.mk ?_ ?_) <;>intro hc| exact rfl) <;>conv=>whnf)
     exact bI.mk (k+1,[e],some g) (by first| omega| (dsimp only;omega)) ⟨(by first| omega| (dsimp only;omega)),by simp at hL ⊢;omega,Xp,by simp⟩ (by(refine⟨?_,?_⟩ <;>repeat' (first| exact True.intro| refine ai ?_| refine And.intro ?_ ?_)))
   | some GG=>
     (conv=>whnf);repeat' ((first| intro g| refine aL.mk _ (au he rfl) ?_| refine ag.mk _ (hle) ?_| refine st ?_| (first| refine b1 ?_ ?_| refine b2 ?_ ?_| refine Br.mk ?_ ?_) <;>intro hc| exact rfl) <;>conv=>whnf)
     exact bI.mk (k+1,L++[e],some g) (by first| omega| (dsimp only;omega)) ⟨(by first| omega| (dsimp only;omega)),by simp;omega,Xp,by simp⟩ (by(refine⟨?_,?_⟩ <;>repeat' (first| exact True.intro| refine ai ?_| refine And.intro ?_ ?_)))
 · obtain rfl:L=m.bZ:=by rw[VF,List.take_of_length_le (by omega)]
   cases ce with
   | none=>
     (conv=>whnf);repeat' ((first| intro g| refine st ?_| (first| refine b1 ?_ ?_| refine b2 ?_ ?_| refine Br.mk ?_ ?_) <;>intro hc| exact rfl) <;>conv=>whnf)
     refine ba.by (fun ((j,K,cw):Nat×List Way×Option Nat)=> ⟨[(1,.ptr 32 FA 0 0),(2,.ptr 48 sI 0 0),(3,.ptr 64 sJ 0 0),(6,aT j)],
     match cw with
     | none=> [(32,⟨FA,4,false,false,some [m.v]⟩),(48,⟨sI,4,false,false,some [.agg [.lit 4 [],.lit 5 [],.lit 8 [],.lit 7 []]]⟩),(144,⟨rG,5,true,false,some (m.bp.map aK.v)⟩),(208,⟨rH,7,true,false,some (m.aW.map Place.v)⟩),(64,⟨sJ,4,false,false,some [.agg [.nils,.sl 144 rG 0 m.bp.length,.nils,.sl 208 rH 0 m.aW.length]]⟩)]
     | some FB=> [(32,⟨FA,4,false,false,some [m.v]⟩),(48,⟨sI,4,false,false,some [.agg [.lit 4 [],.lit 5 [],.lit 8 [],.lit 7 []]]⟩),(144,⟨rG,5,true,false,some (m.bp.map aK.v)⟩),(208,⟨rH,7,true,false,some (m.aW.map Place.v)⟩),(64,⟨sJ,4,false,false,some [.agg [.nils,.sl 144 rG 0 m.bp.length,.sl 68 FB 0 K.length,.sl 208 rH 0 m.aW.length]]⟩),(68,⟨FB,8,true,false,some (K.map Way.v)⟩)]⟩)
       (fun (j,K,cw)=>j≤m.ways.length∧K.length=j∧K=m.ways.take j∧(cw=none→K=[])) (fun (j,_)=>m.ways.length - j) (0,[],none) (by(refine⟨?_,?_⟩ <;>repeat' (first| exact True.intro| refine ai ?_| refine And.intro ?_ ?_))) ⟨by simp,by simp,by simp,by simp⟩ ?_
     rintro⟨j,K,cw⟩ ⟨hj,hK,KM,KN⟩
     try dsimp only at hj hK KM KN
     by_cases VG:j<m.ways.length
     · obtain⟨w,hw⟩: ∃w,m.ways[j]? =some w:=⟨_,aJ VG⟩
       have CI:=vI w.line (h6 w (List.mem_of_getElem? hw))
       have Qn:K++[w]=m.ways.take (j+1):=by rw[KM];exact(eU hw).symm
       cases cw with
       | none=>
         obtain rfl:=KN rfl
         (conv=>whnf);repeat' ((first| intro g| refine aL.mk _ (au hw rfl) ?_| refine ag.mk _ (CI) ?_| refine st ?_| (first| refine b1 ?_ ?_| refine b2 ?_ ?_| refine Br.mk ?_ ?_) <;>intro hc| exact rfl) <;>conv=>whnf)
         exact bI.mk (j+1,[w],some g) (by first| omega| (dsimp only;omega)) ⟨(by first| omega| (dsimp only;omega)),by simp at hK ⊢;omega,Qn,by simp⟩ (by(refine⟨?_,?_⟩ <;>repeat' (first| exact True.intro| refine ai ?_| refine And.intro ?_ ?_)))
       | some FB=>
         (conv=>whnf);repeat' ((first| intro g| refine aL.mk _ (au hw rfl) ?_| refine ag.mk _ (CI) ?_| refine st ?_| (first| refine b1 ?_ ?_| refine b2 ?_ ?_| refine Br.mk ?_ ?_) <;>intro hc| exact rfl) <;>conv=>whnf)
         exact bI.mk (j+1,K++[w],some g) (by first| omega| (dsimp only;omega)) ⟨(by first| omega| (dsimp only;omega)),by simp;omega,Qn,by simp⟩ (by(refine⟨?_,?_⟩ <;>repeat' (first| exact True.intro| refine ai ?_| refine And.intro ?_ ?_)))
     · obtain rfl:K=m.ways:=by rw[KM,List.take_of_length_le (by omega)]
       cases cw with
       | none=>
         (conv=>whnf);repeat' ((first| intro g| refine st ?_| (first| refine b1 ?_ ?_| refine b2 ?_ ?_| refine Br.mk ?_ ?_) <;>intro hc| exact rfl) <;>conv=>whnf)
         exact⟨_,_,.inl ⟨rfl,UB rfl⟩,.inl ⟨rfl,KN rfl⟩,rfl⟩
       | some FB=>
         (conv=>whnf);repeat' ((first| intro g| refine st ?_| (first| refine b1 ?_ ?_| refine b2 ?_ ?_| refine Br.mk ?_ ?_) <;>intro hc| exact rfl) <;>conv=>whnf)
         exact⟨_,_,.inl ⟨rfl,UB rfl⟩,.inr rfl,rfl⟩
   | some GG=>
     (conv=>whnf);repeat' ((first| intro g| refine st ?_| (first| refine b1 ?_ ?_| refine b2 ?_ ?_| refine Br.mk ?_ ?_) <;>intro hc| exact rfl) <;>conv=>whnf)
     refine ba.by (fun ((j,K,cw):Nat×List Way×Option Nat)=> ⟨[(1,.ptr 32 FA 0 0),(2,.ptr 48 sI 0 0),(3,.ptr 64 sJ 0 0),(6,aT j)],
     match cw with
     | none=> [(32,⟨FA,4,false,false,some [m.v]⟩),(48,⟨sI,4,false,false,some [.agg [.lit 4 [],.lit 5 [],.lit 8 [],.lit 7 []]]⟩),(144,⟨rG,5,true,false,some (m.bp.map aK.v)⟩),(208,⟨rH,7,true,false,some (m.aW.map Place.v)⟩),(64,⟨sJ,4,false,false,some [.agg [.sl 66 GG 0 m.bZ.length,.sl 144 rG 0 m.bp.length,.nils,.sl 208 rH 0 m.aW.length]]⟩),(66,⟨GG,4,true,false,some (m.bZ.map Edge.v)⟩)]
     | some FB=> [(32,⟨FA,4,false,false,some [m.v]⟩),(48,⟨sI,4,false,false,some [.agg [.lit 4 [],.lit 5 [],.lit 8 [],.lit 7 []]]⟩),(144,⟨rG,5,true,false,some (m.bp.map aK.v)⟩),(208,⟨rH,7,true,false,some (m.aW.map Place.v)⟩),(64,⟨sJ,4,false,false,some [.agg [.sl 66 GG 0 m.bZ.length,.sl 144 rG 0 m.bp.length,.sl 68 FB 0 K.length,.sl 208 rH 0 m.aW.length]]⟩),(66,⟨GG,4,true,false,some (m.bZ.map Edge.v)⟩),(68,⟨FB,8,true,false,some (K.map Way.v)⟩)]⟩)
       (fun (j,K,cw)=>j≤m.ways.length∧K.length=j∧K=m.ways.take j∧(cw=none→K=[])) (fun (j,_)=>m.ways.length - j) (0,[],none) (by(refine⟨?_,?_⟩ <;>repeat' (first| exact True.intro| refine ai ?_| refine And.intro ?_ ?_))) ⟨by simp,by simp,by simp,by simp⟩ ?_
     rintro⟨j,K,cw⟩ ⟨hj,hK,KM,KN⟩
     try dsimp only at hj hK KM KN
     by_cases VG:j<m.ways.length
     · obtain⟨w,hw⟩: ∃w,m.ways[j]? =some w:=⟨_,aJ VG⟩
       have CI:=vI w.line (h6 w (List.mem_of_getElem? hw))
       have Qn:K++[w]=m.ways.take (j+1):=by rw[KM];exact(eU hw).symm
       cases cw with
       | none=>
         obtain rfl:=KN rfl
         (conv=>whnf);repeat' ((first| intro g| refine aL.mk _ (au hw rfl) ?_| refine ag.mk _ (CI) ?_| refine st ?_| (first| refine b1 ?_ ?_| refine b2 ?_ ?_| refine Br.mk ?_ ?_) <;>intro hc| exact rfl) <;>conv=>whnf)
         exact bI.mk (j+1,[w],some g) (by first| omega| (dsimp only;omega)) ⟨(by first| omega| (dsimp only;omega)),by simp at hK ⊢;omega,Qn,by simp⟩ (by(refine⟨?_,?_⟩ <;>repeat' (first| exact True.intro| refine ai ?_| refine And.intro ?_ ?_)))
       | some FB=>
         (conv=>whnf);repeat' ((first| intro g| refine aL.mk _ (au hw rfl) ?_| refine ag.mk _ (CI) ?_| refine st ?_| (first| refine b1 ?_ ?_| refine b2 ?_ ?_| refine Br.mk ?_ ?_) <;>intro hc| exact rfl) <;>conv=>whnf)
         exact bI.mk (j+1,K++[w],some g) (by first| omega| (dsimp only;omega)) ⟨(by first| omega| (dsimp only;omega)),by simp;omega,Qn,by simp⟩ (by(refine⟨?_,?_⟩ <;>repeat' (first| exact True.intro| refine ai ?_| refine And.intro ?_ ?_)))
     · obtain rfl:K=m.ways:=by rw[KM,List.take_of_length_le (by omega)]
       cases cw with
       | none=>
         (conv=>whnf);repeat' ((first| intro g| refine st ?_| (first| refine b1 ?_ ?_| refine b2 ?_ ?_| refine Br.mk ?_ ?_) <;>intro hc| exact rfl) <;>conv=>whnf)
         exact⟨_,_,.inr rfl,.inl ⟨rfl,KN rfl⟩,rfl⟩
       | some FB=>
         (conv=>whnf);repeat' ((first| intro g| refine st ?_| (first| refine b1 ?_ ?_| refine b2 ?_ ?_| refine Br.mk ?_ ?_) <;>intro hc| exact rfl) <;>conv=>whnf)
         exact⟨_,_,.inr rfl,.inr rfl,rfl⟩
end Go.AM
