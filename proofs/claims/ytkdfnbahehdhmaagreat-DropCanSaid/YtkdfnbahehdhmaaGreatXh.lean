/-
  Texts of the proof, joined by program: DcX2, DcX3. Own work.
-/
import Derived.Test.YtkdfnbahehdhmaaGreatMe2
import Derived.Test.YtkdfnbahehdhmaaGreatXg
import Derived.Test.YtkdfnbahehdhmaaGreatXs
set_option linter.unusedSimpArgs false
set_option linter.unusedVariables false
set_option maxRecDepth 20000
set_option maxHeartbeats 4000000
namespace Go.AM
theorem vS {E:Env} {r sz kb:Nat} {ys:List V} {S:SS} {Q:KK} {A:bz} {p:Prop} (h:ys≠[]) (hb:ys.all (aS · sz)=true) (hs:Nat.ble 1 sz=true) (he:lR r sz kb .nils ys= .bS p A) (k:ed E (.bS (ys.length≤kb) (.lN r fun g=> .bI r {gen:=g,sz,arr:=true,fz:=false,es:=some ys} (.done (.sl r g 0 ys.length)))) S Q):ed E A S Q:=by
 unfold lR at he
 rw[hs] at he
 injection he with e1 e2
 subst e2
 match ys,h with
 | [y],_=>exact k
 | a::b::ys,_=>exact Br.ff k
theorem A3 {E:Env} {r sz kb:Nat} {ys:List V} {S:SS} {Q:KK} {A:bz} {p:Prop} (h:ys=[]) (hs:Nat.ble 1 sz=true) (he:lR r sz kb .nils ys= .bS p A) (k:ed E (.done .nils) S Q):ed E A S Q:=by
 unfold lR at he
 rw[hs] at he
 injection he with e1 e2
 subst e2
 subst h
 exact Br.tt k
theorem IL {m:aQ} (h1:m.aH.length< 1000000) (h2:m.ways.length< 1000000) (h3:m.bn.length< 1000000) (h4:m.aZ.length< 1000000) (h5: ∀e ∈ m.aH,e.line.length< 1000000) (h6: ∀w ∈ m.ways,w.line.length< 1000000)
   (n1:m.aH≠[]) (n3:m.bn≠[]):
   ∃res,Ev E 537 [m.v] res∧ ∃w p,(w= .nils∧m.ways=[]∨w= .own 8 (m.ways.map Way.v))∧(p= .nils∧m.aZ=[]∨p= .own 7 (m.aZ.map Place.v))∧res=⟨.agg [.own 4 (m.aH.map Edge.v),.own 5 (m.bn.map aI.v),w,p],[]⟩:=by
 refine Ev.cO Uh (Ui _) rfl ?_
 (conv=>whnf);repeat' ((first| intro g| refine st ?_| (first| refine b1 ?_ ?_| refine b2 ?_ ?_| refine Br.mk ?_ ?_) <;>intro hc| exact rfl) <;>conv=>whnf)
 rename_i yf yY
 obtain⟨mC,GV⟩: ∃x,x=g:=⟨_,rfl⟩
 rw[←GV];clear GV
 refine aV.by (fun ((k,L,ce):Nat×List Edge×Option Nat)=> ⟨[(1,.ptr 32 yf 0 0),(2,.ptr 48 yY 0 0),(3,.ptr 64 mC 0 0),(4,aD k)],
     match ce with
     | none=> [(32,⟨yf,4,false,false,some [m.v]⟩),(48,⟨yY,4,false,false,some [.agg [.lit 4 [],.lit 5 [],.lit 8 [],.lit 7 []]]⟩),(64,⟨mC,4,false,false,some [.agg [.nils,.nils,.nils,.nils]]⟩)]
     | some zw=> [(32,⟨yf,4,false,false,some [m.v]⟩),(48,⟨yY,4,false,false,some [.agg [.lit 4 [],.lit 5 [],.lit 8 [],.lit 7 []]]⟩),(66,⟨zw,4,true,false,some (L.map Edge.v)⟩),(64,⟨mC,4,false,false,some [.agg [.sl 66 zw 0 L.length,.nils,.nils,.nils]]⟩)]⟩)
   (fun (k,L,ce)=>k≤m.aH.length∧L.length=k∧L=m.aH.take k∧(ce=none→L=[])) (fun (k,_)=>m.aH.length - k) (0,[],none) (by(refine⟨?_,?_⟩ <;>repeat' (first| exact True.intro| refine ai ?_| refine And.intro ?_ ?_))) ⟨by simp,by simp,by simp,by simp⟩ ?_
 rintro⟨k,L,ce⟩ ⟨hk,hL,Mh,Km⟩
 try dsimp only at hk hL Mh Km
 by_cases bl:k<m.aH.length
 · obtain⟨e,he⟩: ∃e,m.aH[k]? =some e:=⟨_,aE bl⟩
   have hle:=h5 e (List.mem_of_getElem? he)
   have Xg:L++[e]=m.aH.take (k+1):=by rw[Mh];exact(eo he).symm
   cases ce with
   | none=>
     obtain rfl:=Km rfl
     (conv=>whnf);repeat' ((first| intro g| refine aL.mk _ (aq he rfl) ?_| refine st ?_| (first| refine b1 ?_ ?_| refine b2 ?_ ?_| refine Br.mk ?_ ?_) <;>intro hc| exact rfl) <;>conv=>whnf)
     exact a9.mk (k+1,[e],some g) (by first| omega| (dsimp only;omega)) ⟨(by first| omega| (dsimp only;omega)),by simp at hL ⊢;omega,Xg,by simp⟩ (by(refine⟨?_,?_⟩ <;>repeat' (first| exact True.intro| refine ai ?_| refine And.intro ?_ ?_)))
   | some zw=>
     (conv=>whnf);repeat' ((first| intro g| refine aL.mk _ (aq he rfl) ?_| refine st ?_| (first| refine b1 ?_ ?_| refine b2 ?_ ?_| refine Br.mk ?_ ?_) <;>intro hc| exact rfl) <;>conv=>whnf)
     exact a9.mk (k+1,L++[e],some g) (by first| omega| (dsimp only;omega)) ⟨(by first| omega| (dsimp only;omega)),by simp;omega,Xg,by simp⟩ (by(refine⟨?_,?_⟩ <;>repeat' (first| exact True.intro| refine ai ?_| refine And.intro ?_ ?_)))
 obtain rfl:L=m.aH:=by rw[Mh,List.take_of_length_le (by omega)]
 cases ce with
 | none=>exact absurd (Km rfl) n1
 | some zw=>
 clear Mh hL Km
 have hm3:m.bn.map aI.v≠[]:=by simpa using n3
 (conv=>whnf);repeat' ((first| intro g| refine st ?_| (first| refine b1 ?_ ?_| refine b2 ?_ ?_| refine Br.mk ?_ ?_) <;>intro hc| exact rfl| refine vS hm3 (AM.uC (fun _=>rfl) _) rfl rfl ?_) <;>conv=>whnf)
 obtain⟨g67,aax⟩: ∃x,x=g:=⟨_,rfl⟩
 rw[←aax];clear aax
 refine aV.by (fun ((j,K,cw):Nat×List Way×Option Nat)=> ⟨[(1,.ptr 32 yf 0 0),(2,.ptr 48 yY 0 0),(3,.ptr 64 mC 0 0),(6,aD j)],
     match cw with
     | none=> [(32,⟨yf,4,false,false,some [m.v]⟩),(48,⟨yY,4,false,false,some [.agg [.lit 4 [],.lit 5 [],.lit 8 [],.lit 7 []]]⟩),(66,⟨zw,4,true,false,some (m.aH.map Edge.v)⟩),(67,⟨g67,5,true,false,some (m.bn.map aI.v)⟩),(64,⟨mC,4,false,false,some [.agg [.sl 66 zw 0 m.aH.length,.sl 67 g67 0 (m.bn.map aI.v).length,.nils,.nils]]⟩)]
     | some BB=> [(32,⟨yf,4,false,false,some [m.v]⟩),(48,⟨yY,4,false,false,some [.agg [.lit 4 [],.lit 5 [],.lit 8 [],.lit 7 []]]⟩),(66,⟨zw,4,true,false,some (m.aH.map Edge.v)⟩),(67,⟨g67,5,true,false,some (m.bn.map aI.v)⟩),(64,⟨mC,4,false,false,some [.agg [.sl 66 zw 0 m.aH.length,.sl 67 g67 0 (m.bn.map aI.v).length,.sl 68 BB 0 K.length,.nils]]⟩),(68,⟨BB,8,true,false,some (K.map Way.v)⟩)]⟩)
   (fun (j,K,cw)=>j≤m.ways.length∧K.length=j∧K=m.ways.take j∧(cw=none→K=[])) (fun (j,_)=>m.ways.length - j) (0,[],none) (by(refine⟨?_,?_⟩ <;>repeat' (first| exact True.intro| refine ai ?_| refine And.intro ?_ ?_))) ⟨by simp,by simp,by simp,by simp⟩ ?_
 rintro⟨j,K,cw⟩ ⟨hj,hK,FK,FL⟩
 try dsimp only at hj hK FK FL
 by_cases SK:j<m.ways.length
 · obtain⟨w,hw⟩: ∃w,m.ways[j]? =some w:=⟨_,aE SK⟩
   have Es:=h6 w (List.mem_of_getElem? hw)
   have Mi:K++[w]=m.ways.take (j+1):=by rw[FK];exact(eo hw).symm
   cases cw with
   | none=>
     obtain rfl:=FL rfl
     (conv=>whnf);repeat' ((first| intro g| refine aL.mk _ (aq hw rfl) ?_| refine st ?_| (first| refine b1 ?_ ?_| refine b2 ?_ ?_| refine Br.mk ?_ ?_) <;>intro hc| exact rfl) <;>conv=>whnf)
     exact a9.mk (j+1,[w],some g) (by first| omega| (dsimp only;omega)) ⟨(by first| omega| (dsimp only;omega)),by simp at hK ⊢;omega,Mi,by simp⟩ (by(refine⟨?_,?_⟩ <;>repeat' (first| exact True.intro| refine ai ?_| refine And.intro ?_ ?_)))
   | some BB=>
     (conv=>whnf);repeat' ((first| intro g| refine aL.mk _ (aq hw rfl) ?_| refine st ?_| (first| refine b1 ?_ ?_| refine b2 ?_ ?_| refine Br.mk ?_ ?_) <;>intro hc| exact rfl) <;>conv=>whnf)
     exact a9.mk (j+1,K++[w],some g) (by first| omega| (dsimp only;omega)) ⟨(by first| omega| (dsimp only;omega)),by simp;omega,Mi,by simp⟩ (by(refine⟨?_,?_⟩ <;>repeat' (first| exact True.intro| refine ai ?_| refine And.intro ?_ ?_)))
 obtain rfl:K=m.ways:=by rw[FK,List.take_of_length_le (by omega)]
 clear FK hK
 by_cases n4:m.aZ=[]
 · have Xv:m.aZ.map Place.v=[]:=by rw[n4];rfl
   cases cw with
   | none=>
     (conv=>whnf);repeat' ((first| intro g| refine st ?_| (first| refine b1 ?_ ?_| refine b2 ?_ ?_| refine Br.mk ?_ ?_) <;>intro hc| exact rfl| refine A3 Xv rfl rfl ?_) <;>conv=>whnf)
     exact⟨_,_,.inl ⟨rfl,FL rfl⟩,.inl ⟨rfl,n4⟩,rfl⟩
   | some BB=>
     (conv=>whnf);repeat' ((first| intro g| refine st ?_| (first| refine b1 ?_ ?_| refine b2 ?_ ?_| refine Br.mk ?_ ?_) <;>intro hc| exact rfl| refine A3 Xv rfl rfl ?_) <;>conv=>whnf)
     exact⟨_,_,.inr rfl,.inl ⟨rfl,n4⟩,rfl⟩
 have hm4:m.aZ.map Place.v≠[]:=by simpa using n4
 cases cw with
 | none=>
   (conv=>whnf);repeat' ((first| intro g| refine st ?_| (first| refine b1 ?_ ?_| refine b2 ?_ ?_| refine Br.mk ?_ ?_) <;>intro hc| exact rfl| refine vS hm4 (AM.uC (fun _=>rfl) _) rfl rfl ?_) <;>conv=>whnf)
   exact⟨_,_,.inl ⟨rfl,FL rfl⟩,.inr rfl,rfl⟩
 | some BB=>
   (conv=>whnf);repeat' ((first| intro g| refine st ?_| (first| refine b1 ?_ ?_| refine b2 ?_ ?_| refine Br.mk ?_ ?_) <;>intro hc| exact rfl| refine vS hm4 (AM.uC (fun _=>rfl) _) rfl rfl ?_) <;>conv=>whnf)
   exact⟨_,_,.inr rfl,.inr rfl,rfl⟩
end Go.AM
set_option maxRecDepth 20000
set_option maxHeartbeats 2000000
namespace Go.AM
theorem FJ {m:aQ} (h:m.Fit) (q:oC m) (n3:m.bn≠[]) (CD:Ev E 536 [m.v,vi q.e.id,aD q.n] ⟨vi 0,[]⟩):
   ∃res,Ev E 525 [m.v,vi q.e.id,aD q.n] res∧ ∃w p,(w= .nils∧m.ways=[]∨w= .own 8 (m.ways.map Way.v))∧(p= .nils∧m.aZ=[]∨p= .own 7 (m.aZ.map Place.v))∧res=⟨.tuple [.agg [.own 4 (q.es.map Edge.v),.own 5 (m.bn.map aI.v),w,p],vi 0],[]⟩:=by
 have IW:=q.he
 have hqk:=(List.getElem?_eq_some_iff.1 IW).1
 have n1:m.aH≠[]:=by intro e;rw[e] at hqk;simp at hqk
 obtain⟨_,Th,w,p,hw,hp,rfl⟩:=IL h.e h.w h.f h.p h.el h.wl n1 n3
 have hf:=j9 h q.e.id
 rw[q.hf] at hf
 have Bb:Ev E 539 [dJ q.e.line,aD q.n] ⟨.own 2 (q.rest.map Pt.v),[]⟩:=AZ (List.getElem?_eq_some_iff.1 q.hb).1 q.hl
 have RC:q.es.map Edge.v=(m.aH.map Edge.v).set (q.k:Int).toNat (.agg [vi q.e.id,.lit 2 (q.rest.map Pt.v),vi q.e.left,vi q.e.right]):=by
   simp[oC.es,List.map_set,Edge.v,dJ]
 unfold dJ at Bb
 rw[RC]
 rcases hw with⟨rfl,hw⟩ | rfl<;>rcases hp with⟨rfl,hp⟩ | rfl
 all_goals refine Ev.cO LB (LC _) rfl ?_
 · (conv=>whnf);repeat' ((first| intro g| refine aL.mk _ (aq IW rfl) ?_| refine aL.mk _ (ei rfl) ?_| refine aL.mk _ (ei (by simp)) ?_| refine ag.mk _ (CD) ?_| refine ag.mk _ (Th) ?_| refine ag.mk _ (hf) ?_| refine ag.mk _ (Bb) ?_| refine st ?_| (first| refine b1 ?_ ?_| refine b2 ?_ ?_| refine Br.mk ?_ ?_) <;>intro hc| exact rfl) <;>conv=>whnf)
   exact⟨_,_,.inl ⟨rfl,hw⟩,.inl ⟨rfl,hp⟩,rfl⟩
 · (conv=>whnf);repeat' ((first| intro g| refine aL.mk _ (aq IW rfl) ?_| refine aL.mk _ (ei rfl) ?_| refine aL.mk _ (ei (by simp)) ?_| refine ag.mk _ (CD) ?_| refine ag.mk _ (Th) ?_| refine ag.mk _ (hf) ?_| refine ag.mk _ (Bb) ?_| refine st ?_| (first| refine b1 ?_ ?_| refine b2 ?_ ?_| refine Br.mk ?_ ?_) <;>intro hc| exact rfl) <;>conv=>whnf)
   exact⟨_,_,.inl ⟨rfl,hw⟩,.inr rfl,rfl⟩
 · (conv=>whnf);repeat' ((first| intro g| refine aL.mk _ (aq IW rfl) ?_| refine aL.mk _ (ei rfl) ?_| refine aL.mk _ (ei (by simp)) ?_| refine ag.mk _ (CD) ?_| refine ag.mk _ (Th) ?_| refine ag.mk _ (hf) ?_| refine ag.mk _ (Bb) ?_| refine st ?_| (first| refine b1 ?_ ?_| refine b2 ?_ ?_| refine Br.mk ?_ ?_) <;>intro hc| exact rfl) <;>conv=>whnf)
   exact⟨_,_,.inr rfl,.inl ⟨rfl,hp⟩,rfl⟩
 · (conv=>whnf);repeat' ((first| intro g| refine aL.mk _ (aq IW rfl) ?_| refine aL.mk _ (ei rfl) ?_| refine aL.mk _ (ei (by simp)) ?_| refine ag.mk _ (CD) ?_| refine ag.mk _ (Th) ?_| refine ag.mk _ (hf) ?_| refine ag.mk _ (Bb) ?_| refine st ?_| (first| refine b1 ?_ ?_| refine b2 ?_ ?_| refine Br.mk ?_ ?_) <;>intro hc| exact rfl) <;>conv=>whnf)
   exact⟨_,_,.inr rfl,.inr rfl,rfl⟩
def Imp (v v':V):Prop:= ∀ (r:Nat) (k:V→bz),dk false r [] v k=k v'
def SF (m:aQ) (id n:Int):Prop:= ∃ (M:aQ) (a b:Bool) (c x:Int) (v1 v2:V),Ev E 524 [m.v,vi id,vi n] ⟨v1,[]⟩∧Ev E 525 [m.v,vi id,vi n] ⟨v2,[]⟩∧Imp v1 (.tuple [M.v,vi c])∧Imp v2 (.tuple [M.nv a b,vi c])∧
 Ev E 526 [m.v,vi id,vi n] ⟨vi c,[]⟩∧Ev E 527 [m.v,vi id,vi n] ⟨vi x,[]⟩∧Ev E 528 [m.v,vi id,vi n] ⟨vi x,[]⟩∧Ev E 89 [M.v,M.nv a b] ⟨.bool true,[]⟩
def aQ.zero:aQ:=⟨[],[],[],[]⟩
theorem IM:aQ.zero.Fit:=⟨by decide,by decide,by decide,by decide,by simp[aQ.zero],by simp[aQ.zero]⟩
theorem yU {m:aQ} {id n c x:Int} (hc:c≠0) (h1:Ev E 526 [m.v,vi id,vi n] ⟨vi c,[]⟩) (h2:Ev E 536 [m.v,vi id,vi n] ⟨vi c,[]⟩) (h3:Ev E 527 [m.v,vi id,vi n] ⟨vi x,[]⟩) (h4:Ev E 528 [m.v,vi id,vi n] ⟨vi x,[]⟩):SF m id n:=
 ⟨aQ.zero,false,false,c,x,_,_,IJ hc h1,FG hc h2,fun _ _=>rfl,fun _ _=>rfl,h1,h3,h4,vT IM (by simp) (by simp)⟩
theorem IN {m:aQ} {id:Int} (h:j8 m id≠0):m.bn≠[]:=by
 intro e
 refine h (pV ?_)
 unfold kP
 rw[e]
 exact firstIdx_none fun j y hy=>by simp at hy
theorem SG {m:aQ} (h:m.Fit) (q:oC m):aQ.Fit ⟨q.es,m.bn,m.ways,m.aZ⟩:=by
 refine⟨by simp[oC.es];exact h.e,h.f,h.w,h.p,fun e he=> ?_,h.wl⟩
 dsimp only at he
 unfold oC.es at he
 rcases List.mem_or_eq_of_mem_set he with he| rfl
 · exact h.el e he
 · exact vQ q
theorem IP {m:aQ} (h:m.Fit) (q:oC m):SF m q.e.id q.n:=by
 have c1:=SD h q
 have c2:=Ll h q
 have k1:=Lh h q
 have k2:=IC h q
 by_cases hc:FC m q=0
 · have hd:pW m q.e≠0:=fun e=>by unfold FC at hc;rw[if_pos e] at hc;omega
   have hd:j8 m q.e.left≠0:=fun e=>by
    refine hd ?_
    unfold pW
    split
    · exact e
    · rfl
   rw[hc] at c1 c2
   obtain⟨_,h2,w,p,hw,hp,rfl⟩:=FJ h q (IN hd) c2
   have hs:=fun a b=>vT (SG h q) (a:=a) (b:=b)
   have ha:=IK h q c1
   rcases hw with⟨rfl,hw⟩ | rfl<;>rcases hp with⟨rfl,hp⟩ | rfl
   · exact⟨_,true,true,0,_,_,_,ha,h2,fun _ _=>rfl,fun _ _=>rfl,c1,k1,k2,hs _ _ (fun _=>hw) (fun _=>hp)⟩
   · exact⟨_,true,false,0,_,_,_,ha,h2,fun _ _=>rfl,fun _ _=>rfl,c1,k1,k2,hs _ _ (fun _=>hw) (by simp)⟩
   · exact⟨_,false,true,0,_,_,_,ha,h2,fun _ _=>rfl,fun _ _=>rfl,c1,k1,k2,hs _ _ (by simp) (fun _=>hp)⟩
   · exact⟨_,false,false,0,_,_,_,ha,h2,fun _ _=>rfl,fun _ _=>rfl,c1,k1,k2,hs _ _ (by simp) (by simp)⟩
 · exact yU hc c1 c2 k1 k2
theorem KZ {m:aQ} (h:m.Fit) (id n:Int):SF m id n:=by
 rcases jN (fun e:Edge=>decide (e.id=id)) m.aH with⟨h1,_⟩ | ⟨k,e,h1,h2,h3⟩
 · have h1:lG m.aH id= -1:=h1
   have ha:=Li h (n:=n) h1
   exact yU (by decide) (IH (.inl rfl) ha) (FF h h1) (xD (by decide) ha) (CC h h1)
 · have h1:lG m.aH id=k:=h1
   by_cases hn:n< 1∨(e.line.length:Int) - 2 <n
   · have ha:=SA h h1 h2 hn
     exact yU (by decide) (IH (.inr rfl) ha) (II h h1 h2 hn) (xD (by decide) ha) (FA h h1 h2 hn)
   · obtain⟨j,rfl⟩: ∃j:Nat,n=j:=⟨n.toNat,by omega⟩
     have Tv:e.id=id:=of_decide_eq_true h3
     subst Tv
     exact IP h ⟨k,j,e,_,_,_,h2,h1,by omega,aE (by omega),aE (by omega),aE (by omega),h.e,h.el e (List.mem_of_getElem? h2)⟩
end Go.AM
