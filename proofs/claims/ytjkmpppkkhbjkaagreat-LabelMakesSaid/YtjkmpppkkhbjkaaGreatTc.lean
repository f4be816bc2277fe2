/-
  Texts of the proof: LtF0, LtF652, LtG, LtF537, LtF92.
-/
import Derived.Test.YtjkmpppkkhbjkaaGreatTa
import Derived.Test.YtjkmpppkkhbjkaaGreatTb
set_option maxRecDepth 20000
set_option linter.unusedSimpArgs false
set_option linter.unusedVariables false
namespace Go.AM
theorem yA (ps:List Pt) (h:ps.length< 1000):Ev E 130 [kh ps] ⟨.own 2 (ps.map Pt.v),[]⟩:=by
 refine Ev.aT WK (WL _) rfl ?_
 (conv=>whnf);repeat' ((first| intro g| refine st ?_| (first| refine b1 ?_ ?_| refine b2 ?_ ?_| refine Br.mk ?_ ?_) <;>intro hc| exact rfl) <;>conv=>whnf)
theorem eZ {α:Type} {l:List α} {k:Nat} {x:α} (h:l[k]? =some x):l.take (k+1)=l.take k++[x]:=by
 rw[List.take_add_one,h];rfl
theorem m7 {E:Env} {r sz gr:Nat} {ys:List V} {S:SS} {Q:KK} {A:bj} {p:Prop} (h:ys≠[]) (hb:ys.all (aO · sz)=true) (hs:Nat.ble 1 sz=true) (he:kX r sz gr .nils ys= .bD p A) (k:en E (.bD (ys.length≤gr) (.jU r fun g=> .bo r {gen:=g,sz,arr:=true,fz:=false,es:=some ys} (.done (.sl r g 0 ys.length)))) S Q):en E A S Q:=by
 unfold kX at he
 rw[hs] at he
 injection he with e1 e2
 subst e2
 match ys,h with
 | [y],_=>exact k
 | a::b::ys,_=>exact Br.ff k
theorem m8 {E:Env} {r sz gr:Nat} {ys:List V} {S:SS} {Q:KK} {A:bj} {p:Prop} (h:ys=[]) (hs:Nat.ble 1 sz=true) (he:kX r sz gr .nils ys= .bD p A) (k:en E (.done .nils) S Q):en E A S Q:=by
 unfold kX at he
 rw[hs] at he
 injection he with e1 e2
 subst e2
 subst h
 exact Br.tt k
def v8 (sz:Nat) (xs:List V) (v:V):Prop:=v= .own sz xs∨v= .lit sz xs
def Yu (v v':V):Prop:= ∀ (r:Nat) (k:V→bj),dY false r [] v k=k v'
theorem Nb {m:bk} {c:Int} {e f w p:V} (h1:v8 4 (m.aU.map Edge.v) e) (h2:v8 5 (m.ba.map bu.v) f) (h3:v8 8 (m.ways.map Way.v) w) (h4:v8 7 (m.au.map Place.v) p):Yu (.tuple [.agg [e,f,w,p],vi c]) (.tuple [m.v,vi c]):=by
 rcases h1 with rfl| rfl<;>rcases h2 with rfl| rfl<;>rcases h3 with rfl| rfl<;>rcases h4 with rfl| rfl
 all_goals exact fun _ _=>rfl
end Go.AM
set_option maxHeartbeats 4000000
namespace Go.AM
theorem Cd {m:bk} (h:m.Sm): ∃res,Ev E 652 [m.v] res∧ ∃e w,v8 4 (m.aU.map Edge.v) e∧v8 8 (m.ways.map Way.v) w∧res=⟨.agg [e,.own 5 (m.ba.map bu.v),w,.own 7 (m.au.map Place.v)],[]⟩:=by
 obtain⟨h1,h3,h2,h4,h5,h6⟩:=h
 refine Ev.bz Wl (Wm _) rfl ?_
 (conv=>whnf);repeat' ((first| intro g| refine aN.mk _ (kZ rfl) ?_| refine st ?_| (first| refine b1 ?_ ?_| refine b2 ?_ ?_| refine Br.mk ?_ ?_) <;>intro hc| exact rfl) <;>conv=>whnf)
 rename_i dn fc _ fi _ iB
 obtain⟨pj,Az⟩: ∃x,x=g:=⟨_,rfl⟩
 rw[←Az];clear Az
 refine aI.by (fun ((k,L,ce):Nat×List Edge×Option Nat)=> ⟨[(1,.ptr 32 dn 0 0),(2,.ptr 48 fc 0 0),(3,.ptr 64 pj 0 0),(4,aC k)],
   match ce with
   | none=> [(32,⟨dn,4,false,false,some [m.v]⟩),(48,⟨fc,4,false,false,some [.agg [.lit 4 [],.lit 5 [],.lit 8 [],.lit 7 []]]⟩),(144,⟨fi,5,true,false,some (m.ba.map bu.v)⟩),(208,⟨iB,7,true,false,some (m.au.map Place.v)⟩),(64,⟨pj,4,false,false,some [.agg [.nils,.sl 144 fi 0 m.ba.length,.nils,.sl 208 iB 0 m.au.length]]⟩)]
   | some pk=> [(32,⟨dn,4,false,false,some [m.v]⟩),(48,⟨fc,4,false,false,some [.agg [.lit 4 [],.lit 5 [],.lit 8 [],.lit 7 []]]⟩),(144,⟨fi,5,true,false,some (m.ba.map bu.v)⟩),(208,⟨iB,7,true,false,some (m.au.map Place.v)⟩),(66,⟨pk,4,true,false,some (L.map Edge.v)⟩),(64,⟨pj,4,false,false,some [.agg [.sl 66 pk 0 L.length,.sl 144 fi 0 m.ba.length,.nils,.sl 208 iB 0 m.au.length]]⟩)]⟩)
   (fun (k,L,ce)=>k≤m.aU.length∧L.length=k∧L=m.aU.take k∧(ce=none→L=[])) (fun (k,_)=>m.aU.length - k) (0,[],none) (by(refine⟨?_,?_⟩ <;>repeat' (first| exact True.intro| refine ai ?_| refine And.intro ?_ ?_))) ⟨by simp,by simp,by simp,by simp⟩ ?_
 rintro⟨k,L,ce⟩ ⟨hk,hL,Dg,vz⟩
 try dsimp only at hk hL Dg vz
 by_cases bp:k<m.aU.length
 · obtain⟨e,he⟩: ∃e,m.aU[k]? =some e:=⟨_,aD bp⟩
   have hle:=h5 e (List.mem_of_getElem? he)
   have Im:L++[e]=m.aU.take (k+1):=by rw[Dg];exact(eZ he).symm
   cases ce with
   | none=>
     obtain rfl:=vz rfl
     (conv=>whnf);repeat' ((first| intro g| refine aN.mk _ (al he rfl) ?_| refine st ?_| (first| refine b1 ?_ ?_| refine b2 ?_ ?_| refine Br.mk ?_ ?_) <;>intro hc| exact rfl) <;>conv=>whnf)
     exact aE.mk (k+1,[e],some g) (by first| omega| (dsimp only;omega)) ⟨(by first| omega| (dsimp only;omega)),by simp at hL ⊢;omega,Im,by simp⟩ (by(refine⟨?_,?_⟩ <;>repeat' (first| exact True.intro| refine ai ?_| refine And.intro ?_ ?_)))
   | some pk=>
     (conv=>whnf);repeat' ((first| intro g| refine aN.mk _ (al he rfl) ?_| refine st ?_| (first| refine b1 ?_ ?_| refine b2 ?_ ?_| refine Br.mk ?_ ?_) <;>intro hc| exact rfl) <;>conv=>whnf)
     exact aE.mk (k+1,L++[e],some g) (by first| omega| (dsimp only;omega)) ⟨(by first| omega| (dsimp only;omega)),by simp;omega,Im,by simp⟩ (by(refine⟨?_,?_⟩ <;>repeat' (first| exact True.intro| refine ai ?_| refine And.intro ?_ ?_)))
 obtain rfl:L=m.aU:=by rw[Dg,List.take_of_length_le (by omega)]
 clear Dg hL
 cases ce with
 | none=>
   (conv=>whnf);repeat' ((first| intro g| refine st ?_| (first| refine b1 ?_ ?_| refine b2 ?_ ?_| refine Br.mk ?_ ?_) <;>intro hc| exact rfl) <;>conv=>whnf)
   refine aI.by (fun ((j,K,cw):Nat×List Way×Option Nat)=> ⟨[(1,.ptr 32 dn 0 0),(2,.ptr 48 fc 0 0),(3,.ptr 64 pj 0 0),(6,aC j)],
     match cw with
     | none=> [(32,⟨dn,4,false,false,some [m.v]⟩),(48,⟨fc,4,false,false,some [.agg [.lit 4 [],.lit 5 [],.lit 8 [],.lit 7 []]]⟩),(144,⟨fi,5,true,false,some (m.ba.map bu.v)⟩),(208,⟨iB,7,true,false,some (m.au.map Place.v)⟩),(64,⟨pj,4,false,false,some [.agg [.nils,.sl 144 fi 0 m.ba.length,.nils,.sl 208 iB 0 m.au.length]]⟩)]
     | some pc=> [(32,⟨dn,4,false,false,some [m.v]⟩),(48,⟨fc,4,false,false,some [.agg [.lit 4 [],.lit 5 [],.lit 8 [],.lit 7 []]]⟩),(144,⟨fi,5,true,false,some (m.ba.map bu.v)⟩),(208,⟨iB,7,true,false,some (m.au.map Place.v)⟩),(68,⟨pc,8,true,false,some (K.map Way.v)⟩),(64,⟨pj,4,false,false,some [.agg [.nils,.sl 144 fi 0 m.ba.length,.sl 68 pc 0 K.length,.sl 208 iB 0 m.au.length]]⟩)]⟩)
     (fun (j,K,cw)=>j≤m.ways.length∧K.length=j∧K=m.ways.take j∧(cw=none→K=[])) (fun (j,_)=>m.ways.length - j) (0,[],none) (by(refine⟨?_,?_⟩ <;>repeat' (first| exact True.intro| refine ai ?_| refine And.intro ?_ ?_))) ⟨by simp,by simp,by simp,by simp⟩ ?_
   rintro⟨j,K,cw⟩ ⟨hj,hK,sW,sX⟩
   try dsimp only at hj hK sW sX
   by_cases HU:j<m.ways.length
   · obtain⟨w,hw⟩: ∃w,m.ways[j]? =some w:=⟨_,aD HU⟩
     have yB:=h6 w (List.mem_of_getElem? hw)
     have AA:K++[w]=m.ways.take (j+1):=by rw[sW];exact(eZ hw).symm
     cases cw with
     | none=>
       obtain rfl:=sX rfl
       (conv=>whnf);repeat' ((first| intro g| refine aN.mk _ (al hw rfl) ?_| refine st ?_| (first| refine b1 ?_ ?_| refine b2 ?_ ?_| refine Br.mk ?_ ?_) <;>intro hc| exact rfl) <;>conv=>whnf)
       exact aE.mk (j+1,[w],some g) (by first| omega| (dsimp only;omega)) ⟨(by first| omega| (dsimp only;omega)),by simp at hK ⊢;omega,AA,by simp⟩ (by(refine⟨?_,?_⟩ <;>repeat' (first| exact True.intro| refine ai ?_| refine And.intro ?_ ?_)))
     | some pc=>
       (conv=>whnf);repeat' ((first| intro g| refine aN.mk _ (al hw rfl) ?_| refine st ?_| (first| refine b1 ?_ ?_| refine b2 ?_ ?_| refine Br.mk ?_ ?_) <;>intro hc| exact rfl) <;>conv=>whnf)
       exact aE.mk (j+1,K++[w],some g) (by first| omega| (dsimp only;omega)) ⟨(by first| omega| (dsimp only;omega)),by simp;omega,AA,by simp⟩ (by(refine⟨?_,?_⟩ <;>repeat' (first| exact True.intro| refine ai ?_| refine And.intro ?_ ?_)))
   obtain rfl:K=m.ways:=by rw[sW,List.take_of_length_le (by omega)]
   cases cw with
   | none=>
     (conv=>whnf);repeat' ((first| intro g| refine st ?_| (first| refine b1 ?_ ?_| refine b2 ?_ ?_| refine Br.mk ?_ ?_) <;>intro hc| exact rfl) <;>conv=>whnf)
     exact⟨_,_,.inr (by rw[vz rfl];rfl),.inr (by rw[sX rfl];rfl),rfl⟩
   | some pc=>
     (conv=>whnf);repeat' ((first| intro g| refine st ?_| (first| refine b1 ?_ ?_| refine b2 ?_ ?_| refine Br.mk ?_ ?_) <;>intro hc| exact rfl) <;>conv=>whnf)
     exact⟨_,_,.inr (by rw[vz rfl];rfl),.inl rfl,rfl⟩
 | some pk=>
   (conv=>whnf);repeat' ((first| intro g| refine st ?_| (first| refine b1 ?_ ?_| refine b2 ?_ ?_| refine Br.mk ?_ ?_) <;>intro hc| exact rfl) <;>conv=>whnf)
   refine aI.by (fun ((j,K,cw):Nat×List Way×Option Nat)=> ⟨[(1,.ptr 32 dn 0 0),(2,.ptr 48 fc 0 0),(3,.ptr 64 pj 0 0),(6,aC j)],
     match cw with
     | none=> [(32,⟨dn,4,false,false,some [m.v]⟩),(48,⟨fc,4,false,false,some [.agg [.lit 4 [],.lit 5 [],.lit 8 [],.lit 7 []]]⟩),(144,⟨fi,5,true,false,some (m.ba.map bu.v)⟩),(208,⟨iB,7,true,false,some (m.au.map Place.v)⟩),(66,⟨pk,4,true,false,some (m.aU.map Edge.v)⟩),(64,⟨pj,4,false,false,some [.agg [.sl 66 pk 0 m.aU.length,.sl 144 fi 0 m.ba.length,.nils,.sl 208 iB 0 m.au.length]]⟩)]
     | some pc=> [(32,⟨dn,4,false,false,some [m.v]⟩),(48,⟨fc,4,false,false,some [.agg [.lit 4 [],.lit 5 [],.lit 8 [],.lit 7 []]]⟩),(144,⟨fi,5,true,false,some (m.ba.map bu.v)⟩),(208,⟨iB,7,true,false,some (m.au.map Place.v)⟩),(66,⟨pk,4,true,false,some (m.aU.map Edge.v)⟩),(68,⟨pc,8,true,false,some (K.map Way.v)⟩),(64,⟨pj,4,false,false,some [.agg [.sl 66 pk 0 m.aU.length,.sl 144 fi 0 m.ba.length,.sl 68 pc 0 K.length,.sl 208 iB 0 m.au.length]]⟩)]⟩)
     (fun (j,K,cw)=>j≤m.ways.length∧K.length=j∧K=m.ways.take j∧(cw=none→K=[])) (fun (j,_)=>m.ways.length - j) (0,[],none) (by(refine⟨?_,?_⟩ <;>repeat' (first| exact True.intro| refine ai ?_| refine And.intro ?_ ?_))) ⟨by simp,by simp,by simp,by simp⟩ ?_
   rintro⟨j,K,cw⟩ ⟨hj,hK,sW,sX⟩
   try dsimp only at hj hK sW sX
   by_cases HU:j<m.ways.length
   · obtain⟨w,hw⟩: ∃w,m.ways[j]? =some w:=⟨_,aD HU⟩
     have yB:=h6 w (List.mem_of_getElem? hw)
     have AA:K++[w]=m.ways.take (j+1):=by rw[sW];exact(eZ hw).symm
     cases cw with
     | none=>
       obtain rfl:=sX rfl
       (conv=>whnf);repeat' ((first| intro g| refine aN.mk _ (al hw rfl) ?_| refine st ?_| (first| refine b1 ?_ ?_| refine b2 ?_ ?_| refine Br.mk ?_ ?_) <;>intro hc| exact rfl) <;>conv=>whnf)
       exact aE.mk (j+1,[w],some g) (by first| omega| (dsimp only;omega)) ⟨(by first| omega| (dsimp only;omega)),by simp at hK ⊢;omega,AA,by simp⟩ (by(refine⟨?_,?_⟩ <;>repeat' (first| exact True.intro| refine ai ?_| refine And.intro ?_ ?_)))
     | some pc=>
       (conv=>whnf);repeat' ((first| intro g| refine aN.mk _ (al hw rfl) ?_| refine st ?_| (first| refine b1 ?_ ?_| refine b2 ?_ ?_| refine Br.mk ?_ ?_) <;>intro hc| exact rfl) <;>conv=>whnf)
       exact aE.mk (j+1,K++[w],some g) (by first| omega| (dsimp only;omega)) ⟨(by first| omega| (dsimp only;omega)),by simp;omega,AA,by simp⟩ (by(refine⟨?_,?_⟩ <;>repeat' (first| exact True.intro| refine ai ?_| refine And.intro ?_ ?_)))
   obtain rfl:K=m.ways:=by rw[sW,List.take_of_length_le (by omega)]
   cases cw with
   | none=>
     (conv=>whnf);repeat' ((first| intro g| refine st ?_| (first| refine b1 ?_ ?_| refine b2 ?_ ?_| refine Br.mk ?_ ?_) <;>intro hc| exact rfl) <;>conv=>whnf)
     exact⟨_,_,.inl rfl,.inr (by rw[sX rfl];rfl),rfl⟩
   | some pc=>
     (conv=>whnf);repeat' ((first| intro g| refine st ?_| (first| refine b1 ?_ ?_| refine b2 ?_ ?_| refine Br.mk ?_ ?_) <;>intro hc| exact rfl) <;>conv=>whnf)
     exact⟨_,_,.inl rfl,.inl rfl,rfl⟩
end Go.AM
set_option maxHeartbeats 4000000
namespace Go.AM
theorem er {E:Env} {r:Nat} {g:Nat} {args:List V} {v v':V} {S:SS} {Q:KK} (hm:c6 E g=[]) (hp:V.aq args=true) (he:Ev E g args ⟨v,[]⟩) (hv: ∀ (r:Nat) (k:V→bj),dY false r [] v k=k v') (k:Q v' S [] []):en E (jG E r false g args) S Q:=by
 have key: ∀ (aS:List V) (i:Nat) (kk:List V→List Nat→List df→bj),V.aq aS=true→eo (r+8) aS [] i kk=kk aS [] []:=by
  intro aS
  induction aS with
  | nil=>intro i kk _;rfl
  | cons a aS ih=>
    intro i kk h
    simp only[V.aq,Bool.and_eq_true] at h
    simp only[eo,fU,h.1,cond_true,List.nil_append]
    rw[ih (i+1) _ h.2]
 unfold jG
 rw[hm,key args 0 _ hp]
 refine⟨rfl,⟨⟨v,[]⟩,he,?_⟩⟩
 simp only[fV,hv]
 exact k
def bk.zr:bk:=⟨[],[],[],[]⟩
theorem xk:bk.zr.Sm:=⟨by decide,by decide,by decide,by decide,by simp[bk.zr],by simp[bk.zr]⟩
def oC (f:Nat) (args:List V):Prop:= ∃ (v:V) (M:bk) (c:Int),Ev E f args ⟨v,[]⟩∧Yu v (.tuple [M.v,vi c])∧M.Sm
theorem oC.mk {f:Nat} {args:List V} (h: ∃res,Ev E f args res∧ ∃ (M:bk) (c:Int),M.Sm∧res=⟨.tuple [M.v,vi c],[]⟩):oC f args:=by
 obtain⟨_,h1,M,c,h2,rfl⟩:=h
 exact⟨_,M,c,h1,fun _ _=>rfl,h2⟩
theorem Dh {m:bk} {e f w p:V} (h1:v8 4 (m.aU.map Edge.v) e) (h2:v8 5 (m.ba.map bu.v) f) (h3:v8 8 (m.ways.map Way.v) w) (h4:v8 7 (m.au.map Place.v) p):Yu (.agg [e,f,w,p]) m.v:=by
 rcases h1 with rfl| rfl<;>rcases h2 with rfl| rfl<;>rcases h3 with rfl| rfl<;>rcases h4 with rfl| rfl
 all_goals exact fun _ _=>rfl
theorem HV {m:bk} (h:m.Sm) (id:Int):oC 641 [m.v,vi id]:=by
 have h1:=kH h.w id
 rcases bV (fun w:Way=>decide (w.id=id)) m.ways with⟨hf,_⟩ | ⟨k,w,hf,hw,_⟩
 · have hf:oB m.ways id= -1:=hf
   have hc:=sG h.w hf
   refine .mk (Ev.bz FQ (FR _) rfl ?_)
   (conv=>whnf);repeat' ((first| intro g| refine ah.mk _ (hc) ?_| refine st ?_| (first| refine b1 ?_ ?_| refine b2 ?_ ?_| refine Br.mk ?_ ?_) <;>intro hc| exact rfl) <;>conv=>whnf)
   exact⟨bk.zr,5,xk,rfl⟩
 have hf:oB m.ways id=k:=hf
 obtain⟨c,hc⟩:=pb h hf hw
 by_cases hz:c=0
 case neg=>
   refine .mk (Ev.bz FQ (FR _) rfl ?_)
   (conv=>whnf);repeat' ((first| contradiction| intro g| refine ah.mk _ (hc) ?_| refine st ?_| (first| refine b1 ?_ ?_| refine b2 ?_ ?_| refine Br.mk ?_ ?_) <;>intro hc| exact rfl) <;>conv=>whnf)
   exact⟨bk.zr,c,xk,rfl⟩
 subst hz
 have hk:=(List.getElem?_eq_some_iff.1 hw).1
 rw[hf] at h1
 obtain⟨_,h2,e,x,he,hx,rfl⟩:=Cd h
 have ho:=o9 hk h.w
 have MK:c6 E 652=[]:=rfl
 have ET:V.aq [m.v]=true:=rfl
 have i2:=Dh he (.inl rfl) hx (.inl rfl)
 obtain⟨os,E3⟩: ∃x,m.ways.eraseIdx k=x:=⟨_,rfl⟩
 rw[E3] at ho
 refine .mk (Ev.bz FQ (FR _) rfl ?_)
 (conv=>whnf);repeat' ((first| refine er MK ET h2 i2 ?_| intro g| refine ah.mk _ (hc) ?_| refine ah.mk _ (h1) ?_| refine ah.mk _ (ho) ?_| refine st ?_| (first| refine b1 ?_ ?_| refine b2 ?_ ?_| refine Br.mk ?_ ?_) <;>intro hc| exact rfl) <;>conv=>whnf)
 refine⟨⟨m.aU,m.ba,os,m.au⟩,0,⟨h.e,h.f,?_,h.p,h.el,?_⟩,rfl⟩
 · subst E3;dsimp only;rw[List.length_eraseIdx];have:=h.w;split<;>omega
 · subst E3;intro u hu;exact h.wl u (List.mem_of_mem_eraseIdx hu)
theorem Nc {m:bk} (h:m.Sm) (d:Int): ∃l:List Event,l.length< 1000∧Ev E 646 [m.v,vi d] ⟨.own 5 (l.map Event.v),[]⟩:=by
 suffices hh: ∃res,Ev E 646 [m.v,vi d] res∧ ∃l:List Event,l.length< 1000∧res=⟨.own 5 (l.map Event.v),[]⟩ by
  obtain⟨_,h1,l,h2,rfl⟩:=hh
  exact⟨l,h2,h1⟩
 have hlen:=h.w
 refine Ev.bz V1 (V2 _) rfl ?_
 (conv=>whnf);repeat' ((first| intro g| refine st ?_| (first| refine b1 ?_ ?_| refine b2 ?_ ?_| refine Br.mk ?_ ?_) <;>intro hc| exact rfl) <;>conv=>whnf)
 rename_i fc _
 refine aI.by (fun ((i,l,g):Nat×List Event×Nat)=> ⟨[(1,vi d),(2,.ptr 48 fc 0 0),(5,.sl 97 g 0 l.length),(6,aC i)],[(48,⟨fc,4,false,false,some [m.v]⟩),(97,⟨g,5,true,false,some (l.map Event.v)⟩)]⟩) (fun (i,l,g)=>i≤m.ways.length∧l.length≤i) (fun (i,_)=>m.ways.length - i) (0,[],g) (by(refine⟨?_,?_⟩ <;>repeat' (first| exact True.intro| refine ai ?_| refine And.intro ?_ ?_))) ⟨by omega,by simp⟩ ?_
 clear g
 rintro⟨i,l,gl⟩ ⟨hi,hl⟩
 try dsimp only at hi hl
 by_cases bp:i<m.ways.length
 case neg=>
  (conv=>whnf);repeat' ((first| intro g| refine st ?_| (first| refine b1 ?_ ?_| refine b2 ?_ ?_| refine Br.mk ?_ ?_) <;>intro hc| exact rfl) <;>conv=>whnf)
  exact⟨l,by omega,rfl⟩
 obtain⟨w,hw⟩: ∃x,m.ways[i]? =some x:=⟨_,aD bp⟩
 obtain⟨q,hq⟩:=sH h w.id
 have h1:=kH h.w w.id
 rcases bV (fun u:Way=>decide (u.id=w.id)) m.ways with⟨_,hf⟩ | ⟨k,u,hf,hu,_⟩
 · exact absurd (hf i w hw) (by simp)
 have hf:oB m.ways w.id=k:=hf
 obtain⟨c,h4⟩:=pb h hf hu
 rw[hf] at h1
 (conv=>whnf);repeat' ((first| intro g| refine aN.mk _ (al hw rfl) ?_| refine ah.mk _ (h1) ?_| refine ah.mk _ (h4) ?_| refine ah.mk _ (hq) ?_| refine st ?_| (first| refine b1 ?_ ?_| refine b2 ?_ ?_| refine Br.mk ?_ ?_) <;>intro hc| exact rfl) <;>conv=>whnf)
 · exact aE.mk (i+1,l++[⟨3,_,w.id,0,0⟩],g) (by first| omega| (dsimp only;omega)) ⟨by omega,by simp;omega⟩ (by(refine⟨?_,?_⟩ <;>repeat' (first| exact True.intro| refine ai ?_| refine And.intro ?_ ?_)))
 all_goals exact aE.mk (i+1,l,gl) (by first| omega| (dsimp only;omega)) ⟨by omega,by omega⟩ (by(refine⟨?_,?_⟩ <;>repeat' (first| exact True.intro| refine ai ?_| refine And.intro ?_ ?_)))
end Go.AM
set_option maxHeartbeats 4000000
namespace Go.AM
theorem Ce {m:bk} (h:m.Sm) (n1:m.aU≠[]): ∃res,Ev E 537 [m.v] res∧ ∃f w p,v8 5 (m.ba.map bu.v) f∧v8 8 (m.ways.map Way.v) w∧v8 7 (m.au.map Place.v) p∧res=⟨.agg [.own 4 (m.aU.map Edge.v),f,w,p],[]⟩:=by
 obtain⟨h1,h3,h2,h4,h5,h6⟩:=h
 refine Ev.bz Wb (Wc _) rfl ?_
 (conv=>whnf);repeat' ((first| intro g| refine st ?_| (first| refine b1 ?_ ?_| refine b2 ?_ ?_| refine Br.mk ?_ ?_) <;>intro hc| exact rfl) <;>conv=>whnf)
 rename_i dn fc
 obtain⟨pj,Az⟩: ∃x,x=g:=⟨_,rfl⟩
 rw[←Az];clear Az
 refine aI.by (fun ((k,L,ce):Nat×List Edge×Option Nat)=> ⟨[(1,.ptr 32 dn 0 0),(2,.ptr 48 fc 0 0),(3,.ptr 64 pj 0 0),(4,aC k)],
   match ce with
   | none=> [(32,⟨dn,4,false,false,some [m.v]⟩),(48,⟨fc,4,false,false,some [.agg [.lit 4 [],.lit 5 [],.lit 8 [],.lit 7 []]]⟩),(64,⟨pj,4,false,false,some [.agg [.nils,.nils,.nils,.nils]]⟩)]
   | some pk=> [(32,⟨dn,4,false,false,some [m.v]⟩),(48,⟨fc,4,false,false,some [.agg [.lit 4 [],.lit 5 [],.lit 8 [],.lit 7 []]]⟩),(66,⟨pk,4,true,false,some (L.map Edge.v)⟩),(64,⟨pj,4,false,false,some [.agg [.sl 66 pk 0 L.length,.nils,.nils,.nils]]⟩)]⟩)
   (fun (k,L,ce)=>k≤m.aU.length∧L.length=k∧L=m.aU.take k∧(ce=none→L=[])) (fun (k,_)=>m.aU.length - k) (0,[],none) (by(refine⟨?_,?_⟩ <;>repeat' (first| exact True.intro| refine ai ?_| refine And.intro ?_ ?_))) ⟨by simp,by simp,by simp,by simp⟩ ?_
 rintro⟨k,L,ce⟩ ⟨hk,hL,Dg,vz⟩
 try dsimp only at hk hL Dg vz
 by_cases bp:k<m.aU.length
 · obtain⟨e,he⟩: ∃e,m.aU[k]? =some e:=⟨_,aD bp⟩
   have hle:=h5 e (List.mem_of_getElem? he)
   have Im:L++[e]=m.aU.take (k+1):=by rw[Dg];exact(eZ he).symm
   cases ce with
   | none=>
     obtain rfl:=vz rfl
     (conv=>whnf);repeat' ((first| intro g| refine aN.mk _ (al he rfl) ?_| refine st ?_| (first| refine b1 ?_ ?_| refine b2 ?_ ?_| refine Br.mk ?_ ?_) <;>intro hc| exact rfl) <;>conv=>whnf)
     exact aE.mk (k+1,[e],some g) (by first| omega| (dsimp only;omega)) ⟨(by first| omega| (dsimp only;omega)),by simp at hL ⊢;omega,Im,by simp⟩ (by(refine⟨?_,?_⟩ <;>repeat' (first| exact True.intro| refine ai ?_| refine And.intro ?_ ?_)))
   | some pk=>
     (conv=>whnf);repeat' ((first| intro g| refine aN.mk _ (al he rfl) ?_| refine st ?_| (first| refine b1 ?_ ?_| refine b2 ?_ ?_| refine Br.mk ?_ ?_) <;>intro hc| exact rfl) <;>conv=>whnf)
     exact aE.mk (k+1,L++[e],some g) (by first| omega| (dsimp only;omega)) ⟨(by first| omega| (dsimp only;omega)),by simp;omega,Im,by simp⟩ (by(refine⟨?_,?_⟩ <;>repeat' (first| exact True.intro| refine ai ?_| refine And.intro ?_ ?_)))
 obtain rfl:L=m.aU:=by rw[Dg,List.take_of_length_le (by omega)]
 cases ce with
 | none=>exact absurd (vz rfl) n1
 | some pk=>
 clear Dg hL vz
 by_cases n3:m.ba=[]
 · have hf0:m.ba.map bu.v=[]:=by rw[n3];rfl
   (conv=>whnf);repeat' ((first| intro g| refine st ?_| (first| refine b1 ?_ ?_| refine b2 ?_ ?_| refine Br.mk ?_ ?_) <;>intro hc| exact rfl| refine m8 hf0 rfl rfl ?_) <;>conv=>whnf)
   refine aI.by (fun ((j,K,cw):Nat×List Way×Option Nat)=> ⟨[(1,.ptr 32 dn 0 0),(2,.ptr 48 fc 0 0),(3,.ptr 64 pj 0 0),(6,aC j)],
     match cw with
     | none=> [(32,⟨dn,4,false,false,some [m.v]⟩),(48,⟨fc,4,false,false,some [.agg [.lit 4 [],.lit 5 [],.lit 8 [],.lit 7 []]]⟩),(66,⟨pk,4,true,false,some (m.aU.map Edge.v)⟩),(64,⟨pj,4,false,false,some [.agg [.sl 66 pk 0 m.aU.length,.nils,.nils,.nils]]⟩)]
     | some pc=> [(32,⟨dn,4,false,false,some [m.v]⟩),(48,⟨fc,4,false,false,some [.agg [.lit 4 [],.lit 5 [],.lit 8 [],.lit 7 []]]⟩),(66,⟨pk,4,true,false,some (m.aU.map Edge.v)⟩),(68,⟨pc,8,true,false,some (K.map Way.v)⟩),(64,⟨pj,4,false,false,some [.agg [.sl 66 pk 0 m.aU.length,.nils,.sl 68 pc 0 K.length,.nils]]⟩)]⟩)
     (fun (j,K,cw)=>j≤m.ways.length∧K.length=j∧K=m.ways.take j∧(cw=none→K=[])) (fun (j,_)=>m.ways.length - j) (0,[],none) (by(refine⟨?_,?_⟩ <;>repeat' (first| exact True.intro| refine ai ?_| refine And.intro ?_ ?_))) ⟨by simp,by simp,by simp,by simp⟩ ?_
   rintro⟨j,K,cw⟩ ⟨hj,hK,sW,sX⟩
   try dsimp only at hj hK sW sX
   by_cases HU:j<m.ways.length
   · obtain⟨w,hw⟩: ∃w,m.ways[j]? =some w:=⟨_,aD HU⟩
     have yB:=h6 w (List.mem_of_getElem? hw)
     have AA:K++[w]=m.ways.take (j+1):=by rw[sW];exact(eZ hw).symm
     cases cw with
     | none=>
       obtain rfl:=sX rfl
       (conv=>whnf);repeat' ((first| intro g| refine aN.mk _ (al hw rfl) ?_| refine st ?_| (first| refine b1 ?_ ?_| refine b2 ?_ ?_| refine Br.mk ?_ ?_) <;>intro hc| exact rfl) <;>conv=>whnf)
       exact aE.mk (j+1,[w],some g) (by first| omega| (dsimp only;omega)) ⟨(by first| omega| (dsimp only;omega)),by simp at hK ⊢;omega,AA,by simp⟩ (by(refine⟨?_,?_⟩ <;>repeat' (first| exact True.intro| refine ai ?_| refine And.intro ?_ ?_)))
     | some pc=>
       (conv=>whnf);repeat' ((first| intro g| refine aN.mk _ (al hw rfl) ?_| refine st ?_| (first| refine b1 ?_ ?_| refine b2 ?_ ?_| refine Br.mk ?_ ?_) <;>intro hc| exact rfl) <;>conv=>whnf)
       exact aE.mk (j+1,K++[w],some g) (by first| omega| (dsimp only;omega)) ⟨(by first| omega| (dsimp only;omega)),by simp;omega,AA,by simp⟩ (by(refine⟨?_,?_⟩ <;>repeat' (first| exact True.intro| refine ai ?_| refine And.intro ?_ ?_)))
   obtain rfl:K=m.ways:=by rw[sW,List.take_of_length_le (by omega)]
   clear sW hK
   by_cases n4:m.au=[]
   · have zK:m.au.map Place.v=[]:=by rw[n4];rfl
     cases cw with
     | none=>
       (conv=>whnf);repeat' ((first| intro g| refine st ?_| (first| refine b1 ?_ ?_| refine b2 ?_ ?_| refine Br.mk ?_ ?_) <;>intro hc| exact rfl| refine m8 zK rfl rfl ?_) <;>conv=>whnf)
       exact⟨_,_,_,.inr (by rw[n3];rfl),.inr (by rw[sX rfl];rfl),.inr (by rw[n4];rfl),rfl⟩
     | some pc=>
       (conv=>whnf);repeat' ((first| intro g| refine st ?_| (first| refine b1 ?_ ?_| refine b2 ?_ ?_| refine Br.mk ?_ ?_) <;>intro hc| exact rfl| refine m8 zK rfl rfl ?_) <;>conv=>whnf)
       exact⟨_,_,_,.inr (by rw[n3];rfl),.inl rfl,.inr (by rw[n4];rfl),rfl⟩
   have Yv:m.au.map Place.v≠[]:=by simpa using n4
   cases cw with
   | none=>
     (conv=>whnf);repeat' ((first| intro g| refine st ?_| (first| refine b1 ?_ ?_| refine b2 ?_ ?_| refine Br.mk ?_ ?_) <;>intro hc| exact rfl| refine m7 Yv (AM.mr (fun _=>rfl) _) rfl rfl ?_) <;>conv=>whnf)
     exact⟨_,_,_,.inr (by rw[n3];rfl),.inr (by rw[sX rfl];rfl),.inl rfl,rfl⟩
   | some pc=>
     (conv=>whnf);repeat' ((first| intro g| refine st ?_| (first| refine b1 ?_ ?_| refine b2 ?_ ?_| refine Br.mk ?_ ?_) <;>intro hc| exact rfl| refine m7 Yv (AM.mr (fun _=>rfl) _) rfl rfl ?_) <;>conv=>whnf)
     exact⟨_,_,_,.inr (by rw[n3];rfl),.inl rfl,.inl rfl,rfl⟩
 have hm3:m.ba.map bu.v≠[]:=by simpa using n3
 (conv=>whnf);repeat' ((first| intro g| refine st ?_| (first| refine b1 ?_ ?_| refine b2 ?_ ?_| refine Br.mk ?_ ?_) <;>intro hc| exact rfl| refine m7 hm3 (AM.mr (fun _=>rfl) _) rfl rfl ?_) <;>conv=>whnf)
 obtain⟨Zg,Yw⟩: ∃x,x=g:=⟨_,rfl⟩
 rw[←Yw];clear Yw
 refine aI.by (fun ((j,K,cw):Nat×List Way×Option Nat)=> ⟨[(1,.ptr 32 dn 0 0),(2,.ptr 48 fc 0 0),(3,.ptr 64 pj 0 0),(6,aC j)],
   match cw with
   | none=> [(32,⟨dn,4,false,false,some [m.v]⟩),(48,⟨fc,4,false,false,some [.agg [.lit 4 [],.lit 5 [],.lit 8 [],.lit 7 []]]⟩),(66,⟨pk,4,true,false,some (m.aU.map Edge.v)⟩),(67,⟨Zg,5,true,false,some (m.ba.map bu.v)⟩),(64,⟨pj,4,false,false,some [.agg [.sl 66 pk 0 m.aU.length,.sl 67 Zg 0 (m.ba.map bu.v).length,.nils,.nils]]⟩)]
   | some pc=> [(32,⟨dn,4,false,false,some [m.v]⟩),(48,⟨fc,4,false,false,some [.agg [.lit 4 [],.lit 5 [],.lit 8 [],.lit 7 []]]⟩),(66,⟨pk,4,true,false,some (m.aU.map Edge.v)⟩),(67,⟨Zg,5,true,false,some (m.ba.map bu.v)⟩),(68,⟨pc,8,true,false,some (K.map Way.v)⟩),(64,⟨pj,4,false,false,some [.agg [.sl 66 pk 0 m.aU.length,.sl 67 Zg 0 (m.ba.map bu.v).length,.sl 68 pc 0 K.length,.nils]]⟩)]⟩)
   (fun (j,K,cw)=>j≤m.ways.length∧K.length=j∧K=m.ways.take j∧(cw=none→K=[])) (fun (j,_)=>m.ways.length - j) (0,[],none) (by(refine⟨?_,?_⟩ <;>repeat' (first| exact True.intro| refine ai ?_| refine And.intro ?_ ?_))) ⟨by simp,by simp,by simp,by simp⟩ ?_
 rintro⟨j,K,cw⟩ ⟨hj,hK,sW,sX⟩
 try dsimp only at hj hK sW sX
 by_cases HU:j<m.ways.length
 · obtain⟨w,hw⟩: ∃w,m.ways[j]? =some w:=⟨_,aD HU⟩
   have yB:=h6 w (List.mem_of_getElem? hw)
   have AA:K++[w]=m.ways.take (j+1):=by rw[sW];exact(eZ hw).symm
   cases cw with
   | none=>
     obtain rfl:=sX rfl
     (conv=>whnf);repeat' ((first| intro g| refine aN.mk _ (al hw rfl) ?_| refine st ?_| (first| refine b1 ?_ ?_| refine b2 ?_ ?_| refine Br.mk ?_ ?_) <;>intro hc| exact rfl) <;>conv=>whnf)
     exact aE.mk (j+1,[w],some g) (by first| omega| (dsimp only;omega)) ⟨(by first| omega| (dsimp only;omega)),by simp at hK ⊢;omega,AA,by simp⟩ (by(refine⟨?_,?_⟩ <;>repeat' (first| exact True.intro| refine ai ?_| refine And.intro ?_ ?_)))
   | some pc=>
     (conv=>whnf);repeat' ((first| intro g| refine aN.mk _ (al hw rfl) ?_| refine st ?_| (first| refine b1 ?_ ?_| refine b2 ?_ ?_| refine Br.mk ?_ ?_) <;>intro hc| exact rfl) <;>conv=>whnf)
     exact aE.mk (j+1,K++[w],some g) (by first| omega| (dsimp only;omega)) ⟨(by first| omega| (dsimp only;omega)),by simp;omega,AA,by simp⟩ (by(refine⟨?_,?_⟩ <;>repeat' (first| exact True.intro| refine ai ?_| refine And.intro ?_ ?_)))
 obtain rfl:K=m.ways:=by rw[sW,List.take_of_length_le (by omega)]
 clear sW hK
 by_cases n4:m.au=[]
 · have zK:m.au.map Place.v=[]:=by rw[n4];rfl
   cases cw with
   | none=>
     (conv=>whnf);repeat' ((first| intro g| refine st ?_| (first| refine b1 ?_ ?_| refine b2 ?_ ?_| refine Br.mk ?_ ?_) <;>intro hc| exact rfl| refine m8 zK rfl rfl ?_) <;>conv=>whnf)
     exact⟨_,_,_,.inl rfl,.inr (by rw[sX rfl];rfl),.inr (by rw[n4];rfl),rfl⟩
   | some pc=>
     (conv=>whnf);repeat' ((first| intro g| refine st ?_| (first| refine b1 ?_ ?_| refine b2 ?_ ?_| refine Br.mk ?_ ?_) <;>intro hc| exact rfl| refine m8 zK rfl rfl ?_) <;>conv=>whnf)
     exact⟨_,_,_,.inl rfl,.inl rfl,.inr (by rw[n4];rfl),rfl⟩
 have Yv:m.au.map Place.v≠[]:=by simpa using n4
 cases cw with
 | none=>
   (conv=>whnf);repeat' ((first| intro g| refine st ?_| (first| refine b1 ?_ ?_| refine b2 ?_ ?_| refine Br.mk ?_ ?_) <;>intro hc| exact rfl| refine m7 Yv (AM.mr (fun _=>rfl) _) rfl rfl ?_) <;>conv=>whnf)
   exact⟨_,_,_,.inl rfl,.inr (by rw[sX rfl];rfl),.inl rfl,rfl⟩
 | some pc=>
   (conv=>whnf);repeat' ((first| intro g| refine st ?_| (first| refine b1 ?_ ?_| refine b2 ?_ ?_| refine Br.mk ?_ ?_) <;>intro hc| exact rfl| refine m7 Yv (AM.mr (fun _=>rfl) _) rfl rfl ?_) <;>conv=>whnf)
   exact⟨_,_,_,.inl rfl,.inl rfl,.inl rfl,rfl⟩
end Go.AM
set_option maxHeartbeats 4000000
namespace Go.AM
theorem EJ {m:bk} (h:m.Sm): ∃res,Ev E 92 [m.v] res∧ ∃e w,v8 4 (m.aU.map Edge.v) e∧v8 8 (m.ways.map Way.v) w∧res=⟨.agg [e,.own 5 (m.ba.map bu.v),w,.own 7 (m.au.map Place.v)],[]⟩:=by
 obtain⟨h1,h3,h2,h4,h5,h6⟩:=h
 refine Ev.bz Z8 (Z9 _) rfl ?_
 (conv=>whnf);repeat' ((first| intro g| refine aN.mk _ (kZ rfl) ?_| refine st ?_| (first| refine b1 ?_ ?_| refine b2 ?_ ?_| refine Br.mk ?_ ?_) <;>intro hc| exact rfl) <;>conv=>whnf)
 rename_i dn fc _ fi _ iB
 obtain⟨pj,Az⟩: ∃x,x=g:=⟨_,rfl⟩
 rw[←Az];clear Az
 refine aI.by (fun ((k,L,ce):Nat×List Edge×Option Nat)=> ⟨[(1,.ptr 32 dn 0 0),(2,.ptr 48 fc 0 0),(3,.ptr 64 pj 0 0),(4,aC k)],
   match ce with
   | none=> [(32,⟨dn,4,false,false,some [m.v]⟩),(48,⟨fc,4,false,false,some [.agg [.lit 4 [],.lit 5 [],.lit 8 [],.lit 7 []]]⟩),(144,⟨fi,5,true,false,some (m.ba.map bu.v)⟩),(208,⟨iB,7,true,false,some (m.au.map Place.v)⟩),(64,⟨pj,4,false,false,some [.agg [.nils,.sl 144 fi 0 m.ba.length,.nils,.sl 208 iB 0 m.au.length]]⟩)]
   | some pk=> [(32,⟨dn,4,false,false,some [m.v]⟩),(48,⟨fc,4,false,false,some [.agg [.lit 4 [],.lit 5 [],.lit 8 [],.lit 7 []]]⟩),(144,⟨fi,5,true,false,some (m.ba.map bu.v)⟩),(208,⟨iB,7,true,false,some (m.au.map Place.v)⟩),(66,⟨pk,4,true,false,some (L.map Edge.v)⟩),(64,⟨pj,4,false,false,some [.agg [.sl 66 pk 0 L.length,.sl 144 fi 0 m.ba.length,.nils,.sl 208 iB 0 m.au.length]]⟩)]⟩)
   (fun (k,L,ce)=>k≤m.aU.length∧L.length=k∧L=m.aU.take k∧(ce=none→L=[])) (fun (k,_)=>m.aU.length - k) (0,[],none) (by(refine⟨?_,?_⟩ <;>repeat' (first| exact True.intro| refine ai ?_| refine And.intro ?_ ?_))) ⟨by simp,by simp,by simp,by simp⟩ ?_
 rintro⟨k,L,ce⟩ ⟨hk,hL,Dg,vz⟩
 try dsimp only at hk hL Dg vz
 by_cases bp:k<m.aU.length
 · obtain⟨e,he⟩: ∃e,m.aU[k]? =some e:=⟨_,aD bp⟩
   have hle:=yA e.line (h5 e (List.mem_of_getElem? he))
   have Im:L++[e]=m.aU.take (k+1):=by rw[Dg];exact(eZ he).symm
   cases ce with
   | none=>
     obtain rfl:=vz rfl
     (conv=>whnf);repeat' ((first| intro g| refine aN.mk _ (al he rfl) ?_| refine ah.mk _ (hle) ?_| refine st ?_| (first| refine b1 ?_ ?_| refine b2 ?_ ?_| refine Br.mk ?_ ?_) <;>intro hc| exact rfl) <;>conv=>whnf)
     exact aE.mk (k+1,[e],some g) (by first| omega| (dsimp only;omega)) ⟨(by first| omega| (dsimp only;omega)),by simp at hL ⊢;omega,Im,by simp⟩ (by(refine⟨?_,?_⟩ <;>repeat' (first| exact True.intro| refine ai ?_| refine And.intro ?_ ?_)))
   | some pk=>
     (conv=>whnf);repeat' ((first| intro g| refine aN.mk _ (al he rfl) ?_| refine ah.mk _ (hle) ?_| refine st ?_| (first| refine b1 ?_ ?_| refine b2 ?_ ?_| refine Br.mk ?_ ?_) <;>intro hc| exact rfl) <;>conv=>whnf)
     exact aE.mk (k+1,L++[e],some g) (by first| omega| (dsimp only;omega)) ⟨(by first| omega| (dsimp only;omega)),by simp;omega,Im,by simp⟩ (by(refine⟨?_,?_⟩ <;>repeat' (first| exact True.intro| refine ai ?_| refine And.intro ?_ ?_)))
 obtain rfl:L=m.aU:=by rw[Dg,List.take_of_length_le (by omega)]
 clear Dg hL
 cases ce with
 | none=>
   (conv=>whnf);repeat' ((first| intro g| refine st ?_| (first| refine b1 ?_ ?_| refine b2 ?_ ?_| refine Br.mk ?_ ?_) <;>intro hc| exact rfl) <;>conv=>whnf)
   refine aI.by (fun ((j,K,cw):Nat×List Way×Option Nat)=> ⟨[(1,.ptr 32 dn 0 0),(2,.ptr 48 fc 0 0),(3,.ptr 64 pj 0 0),(6,aC j)],
     match cw with
     | none=> [(32,⟨dn,4,false,false,some [m.v]⟩),(48,⟨fc,4,false,false,some [.agg [.lit 4 [],.lit 5 [],.lit 8 [],.lit 7 []]]⟩),(144,⟨fi,5,true,false,some (m.ba.map bu.v)⟩),(208,⟨iB,7,true,false,some (m.au.map Place.v)⟩),(64,⟨pj,4,false,false,some [.agg [.nils,.sl 144 fi 0 m.ba.length,.nils,.sl 208 iB 0 m.au.length]]⟩)]
     | some pc=> [(32,⟨dn,4,false,false,some [m.v]⟩),(48,⟨fc,4,false,false,some [.agg [.lit 4 [],.lit 5 [],.lit 8 [],.lit 7 []]]⟩),(144,⟨fi,5,true,false,some (m.ba.map bu.v)⟩),(208,⟨iB,7,true,false,some (m.au.map Place.v)⟩),(68,⟨pc,8,true,false,some (K.map Way.v)⟩),(64,⟨pj,4,false,false,some [.agg [.nils,.sl 144 fi 0 m.ba.length,.sl 68 pc 0 K.length,.sl 208 iB 0 m.au.length]]⟩)]⟩)
     (fun (j,K,cw)=>j≤m.ways.length∧K.length=j∧K=m.ways.take j∧(cw=none→K=[])) (fun (j,_)=>m.ways.length - j) (0,[],none) (by(refine⟨?_,?_⟩ <;>repeat' (first| exact True.intro| refine ai ?_| refine And.intro ?_ ?_))) ⟨by simp,by simp,by simp,by simp⟩ ?_
   rintro⟨j,K,cw⟩ ⟨hj,hK,sW,sX⟩
   try dsimp only at hj hK sW sX
   by_cases HU:j<m.ways.length
   · obtain⟨w,hw⟩: ∃w,m.ways[j]? =some w:=⟨_,aD HU⟩
     have yB:=yA w.line (h6 w (List.mem_of_getElem? hw))
     have AA:K++[w]=m.ways.take (j+1):=by rw[sW];exact(eZ hw).symm
     cases cw with
     | none=>
       obtain rfl:=sX rfl
       (conv=>whnf);repeat' ((first| intro g| refine aN.mk _ (al hw rfl) ?_| refine ah.mk _ (yB) ?_| refine st ?_| (first| refine b1 ?_ ?_| refine b2 ?_ ?_| refine Br.mk ?_ ?_) <;>intro hc| exact rfl) <;>conv=>whnf)
       exact aE.mk (j+1,[w],some g) (by first| omega| (dsimp only;omega)) ⟨(by first| omega| (dsimp only;omega)),by simp at hK ⊢;omega,AA,by simp⟩ (by(refine⟨?_,?_⟩ <;>repeat' (first| exact True.intro| refine ai ?_| refine And.intro ?_ ?_)))
     | some pc=>
       (conv=>whnf);repeat' ((first| intro g| refine aN.mk _ (al hw rfl) ?_| refine ah.mk _ (yB) ?_| refine st ?_| (first| refine b1 ?_ ?_| refine b2 ?_ ?_| refine Br.mk ?_ ?_) <;>intro hc| exact rfl) <;>conv=>whnf)
       exact aE.mk (j+1,K++[w],some g) (by first| omega| (dsimp only;omega)) ⟨(by first| omega| (dsimp only;omega)),by simp;omega,AA,by simp⟩ (by(refine⟨?_,?_⟩ <;>repeat' (first| exact True.intro| refine ai ?_| refine And.intro ?_ ?_)))
   obtain rfl:K=m.ways:=by rw[sW,List.take_of_length_le (by omega)]
   cases cw with
   | none=>
     (conv=>whnf);repeat' ((first| intro g| refine st ?_| (first| refine b1 ?_ ?_| refine b2 ?_ ?_| refine Br.mk ?_ ?_) <;>intro hc| exact rfl) <;>conv=>whnf)
     exact⟨_,_,.inr (by rw[vz rfl];rfl),.inr (by rw[sX rfl];rfl),rfl⟩
   | some pc=>
     (conv=>whnf);repeat' ((first| intro g| refine st ?_| (first| refine b1 ?_ ?_| refine b2 ?_ ?_| refine Br.mk ?_ ?_) <;>intro hc| exact rfl) <;>conv=>whnf)
     exact⟨_,_,.inr (by rw[vz rfl];rfl),.inl rfl,rfl⟩
 | some pk=>
   (conv=>whnf);repeat' ((first| intro g| refine st ?_| (first| refine b1 ?_ ?_| refine b2 ?_ ?_| refine Br.mk ?_ ?_) <;>intro hc| exact rfl) <;>conv=>whnf)
   refine aI.by (fun ((j,K,cw):Nat×List Way×Option Nat)=> ⟨[(1,.ptr 32 dn 0 0),(2,.ptr 48 fc 0 0),(3,.ptr 64 pj 0 0),(6,aC j)],
     match cw with
     | none=> [(32,⟨dn,4,false,false,some [m.v]⟩),(48,⟨fc,4,false,false,some [.agg [.lit 4 [],.lit 5 [],.lit 8 [],.lit 7 []]]⟩),(144,⟨fi,5,true,false,some (m.ba.map bu.v)⟩),(208,⟨iB,7,true,false,some (m.au.map Place.v)⟩),(66,⟨pk,4,true,false,some (m.aU.map Edge.v)⟩),(64,⟨pj,4,false,false,some [.agg [.sl 66 pk 0 m.aU.length,.sl 144 fi 0 m.ba.length,.nils,.sl 208 iB 0 m.au.length]]⟩)]
     | some pc=> [(32,⟨dn,4,false,false,some [m.v]⟩),(48,⟨fc,4,false,false,some [.agg [.lit 4 [],.lit 5 [],.lit 8 [],.lit 7 []]]⟩),(144,⟨fi,5,true,false,some (m.ba.map bu.v)⟩),(208,⟨iB,7,true,false,some (m.au.map Place.v)⟩),(66,⟨pk,4,true,false,some (m.aU.map Edge.v)⟩),(68,⟨pc,8,true,false,some (K.map Way.v)⟩),(64,⟨pj,4,false,false,some [.agg [.sl 66 pk 0 m.aU.length,.sl 144 fi 0 m.ba.length,.sl 68 pc 0 K.length,.sl 208 iB 0 m.au.length]]⟩)]⟩)
     (fun (j,K,cw)=>j≤m.ways.length∧K.length=j∧K=m.ways.take j∧(cw=none→K=[])) (fun (j,_)=>m.ways.length - j) (0,[],none) (by(refine⟨?_,?_⟩ <;>repeat' (first| exact True.intro| refine ai ?_| refine And.intro ?_ ?_))) ⟨by simp,by simp,by simp,by simp⟩ ?_
   rintro⟨j,K,cw⟩ ⟨hj,hK,sW,sX⟩
   try dsimp only at hj hK sW sX
   by_cases HU:j<m.ways.length
   · obtain⟨w,hw⟩: ∃w,m.ways[j]? =some w:=⟨_,aD HU⟩
     have yB:=yA w.line (h6 w (List.mem_of_getElem? hw))
     have AA:K++[w]=m.ways.take (j+1):=by rw[sW];exact(eZ hw).symm
     cases cw with
     | none=>
       obtain rfl:=sX rfl
       (conv=>whnf);repeat' ((first| intro g| refine aN.mk _ (al hw rfl) ?_| refine ah.mk _ (yB) ?_| refine st ?_| (first| refine b1 ?_ ?_| refine b2 ?_ ?_| refine Br.mk ?_ ?_) <;>intro hc| exact rfl) <;>conv=>whnf)
       exact aE.mk (j+1,[w],some g) (by first| omega| (dsimp only;omega)) ⟨(by first| omega| (dsimp only;omega)),by simp at hK ⊢;omega,AA,by simp⟩ (by(refine⟨?_,?_⟩ <;>repeat' (first| exact True.intro| refine ai ?_| refine And.intro ?_ ?_)))
     | some pc=>
       (conv=>whnf);repeat' ((first| intro g| refine aN.mk _ (al hw rfl) ?_| refine ah.mk _ (yB) ?_| refine st ?_| (first| refine b1 ?_ ?_| refine b2 ?_ ?_| refine Br.mk ?_ ?_) <;>intro hc| exact rfl) <;>conv=>whnf)
       exact aE.mk (j+1,K++[w],some g) (by first| omega| (dsimp only;omega)) ⟨(by first| omega| (dsimp only;omega)),by simp;omega,AA,by simp⟩ (by(refine⟨?_,?_⟩ <;>repeat' (first| exact True.intro| refine ai ?_| refine And.intro ?_ ?_)))
   obtain rfl:K=m.ways:=by rw[sW,List.take_of_length_le (by omega)]
   cases cw with
   | none=>
     (conv=>whnf);repeat' ((first| intro g| refine st ?_| (first| refine b1 ?_ ?_| refine b2 ?_ ?_| refine Br.mk ?_ ?_) <;>intro hc| exact rfl) <;>conv=>whnf)
     exact⟨_,_,.inl rfl,.inr (by rw[sX rfl];rfl),rfl⟩
   | some pc=>
     (conv=>whnf);repeat' ((first| intro g| refine st ?_| (first| refine b1 ?_ ?_| refine b2 ?_ ?_| refine Br.mk ?_ ?_) <;>intro hc| exact rfl) <;>conv=>whnf)
     exact⟨_,_,.inl rfl,.inl rfl,rfl⟩
end Go.AM
