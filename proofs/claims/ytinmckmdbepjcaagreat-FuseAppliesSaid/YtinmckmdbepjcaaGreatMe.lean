/-
  Texts of the proof, joined by program: SMadeK, SMadeL, SOddA, FuP. Own work.
-/
import Derived.Test.YtinmckmdbepjcaaGreatData
import Derived.Test.YtinmckmdbepjcaaGreatMd
import Derived.Test.YtinmckmdbepjcaaGreatMc
import Derived.Test.YtinmckmdbepjcaaGreatGc
set_option linter.unusedSimpArgs false
set_option linter.unusedVariables false
set_option maxRecDepth 20000
namespace Go.AM
def xh (ps:List Place) (n:Nat):Prop:=ps.length≤n∧ ∀ (i:Nat) (p:Place),ps[i]? =some p→p.id=61+(i:Int)
theorem xh.snoc {ps:List Place} {n:Nat} {p:Place} (h:xh ps n) (k:p.id=61+(ps.length:Int)):xh (ps++[p]) (n+1):=by
 refine⟨by have:=h.1;simp;omega,fun i x hx=> ?_⟩
 by_cases hi:i<ps.length
 · rw[List.getElem?_append_left hi] at hx
   exact h.2 i x hx
 · rw[List.getElem?_append_right (by omega)] at hx
   have hl:i - ps.length=0:=by
    have:=(List.getElem?_eq_some_iff.1 hx).1
    simp at this;omega
   rw[hl] at hx
   obtain rfl:p=x:=by simpa using hx
   rw[k];congr 1;omega
theorem xh.mono {ps:List Place} {n m:Nat} (h:xh ps n) (k:n≤m):xh ps m:=⟨Nat.le_trans h.1 k,h.2⟩
set_option maxHeartbeats 4000000 in
theorem Dd {l:List Int} (hl:l.length< 9223372036854775808) {m:aG} {n:Nat} (he:hG m.an n) (hn:n< 1000) (hf:m.ah.length< 1000): ∃res,Ev E 87 [m.v,.lit 1 (l.map vi)] res∧ ∃ps:List Place,xh ps 6∧res=⟨.own 7 (ps.map Place.v),[]⟩:=by
 refine Ev.cQ SM (SN _) rfl ?_
 have n2:=fun a=>cg hl 2 (a:=a) (by omega) (by omega)
 have n3:=fun a=>cg hl 3 (a:=a) (by omega) (by omega)
 have n5:=fun a=>cg hl 5 (a:=a) (by omega) (by omega)
 have Wm:=fun a=>cg hl 10 (a:=a) (by omega) (by omega)
 have n51:=fun a=>cg hl 51 (a:=a) (by omega) (by omega)
 have n60:=fun a=>cg hl 60 (a:=a) (by omega) (by omega)
 have n7:=cg hl 7 (a:=0) (by omega) (by omega)
 have hb:=gA (l:=l) (a:=0) (n:=7) (by omega) (by omega)
 generalize fg l 0 7=many at hb n7
 have De: ∀x y,∃rb:Int×Bool,Ev E 121 [.lit 4 (m.an.map Edge.v),.agg [vi x,vi y]] ⟨.tuple [vi rb.1,.bool rb.2],[]⟩:=by
   intro x y
   obtain⟨r,b,h⟩:=LJ he hn ⟨x,y⟩
   exact⟨(r,b),h⟩
 obtain⟨fr,De⟩: ∃f:Int→Int→Int×Bool,∀x y,Ev E 121 [.lit 4 (m.an.map Edge.v),.agg [vi x,vi y]] ⟨.tuple [vi (f x y).1,.bool (f x y).2],[]⟩:=⟨fun x y=> (De x y).choose,fun x y=> (De x y).choose_spec⟩
 obtain⟨fd,hd⟩: ∃f:Int→Int,∀x,Ev E 122 [m.v,vi x] ⟨vi (f x),[]⟩:=⟨fun x=> (qA m hf x).choose,fun x=> (qA m hf x).choose_spec⟩
 (conv=>whnf);repeat' ((first| intro g| refine ag.mk _ (n7) ?_| refine st ?_| (refine aH.bR ?_;intro s) | (first| refine b1 ?_ ?_| refine b2 ?_ ?_| refine Br.mk ?_ ?_) <;>intro hc| exact rfl) <;>conv=>whnf)
 rename_i g2 _ gd
 refine ba.by (fun ((k,ps,a,g):Nat×List Place×Nat×Nat)=> ⟨[(2,.ptr 48 g2 0 0),(5,.ptr 256 gd 0 0),(6,.sl 113 g 0 ps.length),(7,aF many),(8,aF k)],
    [(48,⟨g2,4,false,false,some [m.v]⟩),(256,⟨gd,2,false,false,some [de l a]⟩),(113,⟨g,7,true,false,some (ps.map Place.v)⟩)]⟩)
   (fun (k,ps,a,g)=>k≤many∧xh ps k) (fun (k,_)=>many - k) (0,[],b8 l 0,g) (by(refine⟨?_,?_⟩ <;>repeat' (first| exact True.intro| refine ai ?_| refine And.intro ?_ ?_))) ⟨by simp,by simp,by simp⟩ ?_
 rintro⟨k,ps,a,g⟩ ⟨hk,hp⟩
 try dsimp only at hk hp
 by_cases bk:k<many
 · have RZ:=hp.1
   have E7:IntKind.i64.wrap (61+(ps.length:Int))=61+(ps.length:Int):=wrap64 (by omega) (by omega)
   (conv=>whnf);repeat' ((first| intro g| refine ag.mk _ (n2 _) ?_| refine ag.mk _ (n3 _) ?_| refine ag.mk _ (n5 _) ?_| refine ag.mk _ (Wm _) ?_| refine ag.mk _ (n51 _) ?_| refine ag.mk _ (n60 _) ?_| refine ag.mk _ (De _ _) ?_| refine ag.mk _ (hd _) ?_| refine st ?_| (refine aH.bR ?_;intro s) | (first| refine b1 ?_ ?_| refine b2 ?_ ?_| refine Br.mk ?_ ?_) <;>intro hc| exact rfl) <;>conv=>whnf)
   · exact bc.mk (k+1,ps++[⟨IntKind.i64.wrap (61+(ps.length:Int)),_,_,_,_,_,_⟩],_,g) (by first| omega| (dsimp only;omega)) ⟨(by first| omega| (dsimp only;omega)),hp.snoc E7⟩ (by(refine⟨?_,?_⟩ <;>repeat' (first| exact True.intro| refine ai ?_| refine And.intro ?_ ?_)))
   · exact bc.mk (k+1,ps,_,_) (by first| omega| (dsimp only;omega)) ⟨(by first| omega| (dsimp only;omega)),hp.mono (by omega)⟩ (by(refine⟨?_,?_⟩ <;>repeat' (first| exact True.intro| refine ai ?_| refine And.intro ?_ ?_)))
   · exact bc.mk (k+1,ps,_,_) (by first| omega| (dsimp only;omega)) ⟨(by first| omega| (dsimp only;omega)),hp.mono (by omega)⟩ (by(refine⟨?_,?_⟩ <;>repeat' (first| exact True.intro| refine ai ?_| refine And.intro ?_ ?_)))
   · exact bc.mk (k+1,ps++[⟨IntKind.i64.wrap (61+(ps.length:Int)),_,_,_,_,_,_⟩],_,g) (by first| omega| (dsimp only;omega)) ⟨(by first| omega| (dsimp only;omega)),hp.snoc E7⟩ (by(refine⟨?_,?_⟩ <;>repeat' (first| exact True.intro| refine ai ?_| refine And.intro ?_ ?_)))
   · exact bc.mk (k+1,ps,_,_) (by first| omega| (dsimp only;omega)) ⟨(by first| omega| (dsimp only;omega)),hp.mono (by omega)⟩ (by(refine⟨?_,?_⟩ <;>repeat' (first| exact True.intro| refine ai ?_| refine And.intro ?_ ?_)))
   · exact bc.mk (k+1,ps,_,_) (by first| omega| (dsimp only;omega)) ⟨(by first| omega| (dsimp only;omega)),hp.mono (by omega)⟩ (by(refine⟨?_,?_⟩ <;>repeat' (first| exact True.intro| refine ai ?_| refine And.intro ?_ ?_)))
 · (conv=>whnf);repeat' ((first| intro g| refine st ?_| (refine aH.bR ?_;intro s) | (first| refine b1 ?_ ?_| refine b2 ?_ ?_| refine Br.mk ?_ ?_) <;>intro hc| exact rfl) <;>conv=>whnf)
   exact⟨ps,hp.mono (by omega),rfl⟩
end Go.AM
set_option maxRecDepth 20000
namespace Go.AM
theorem xi {ls:List (List Int)} (hs:wa ls) (i:Nat) (hi:i< 1000): ∃l:List Int,l.length< 9223372036854775808∧Ev E 84 [fU ls,aF i] ⟨eV l,[]⟩:=by
 have hl:=hs.1
 by_cases h:i<ls.length
 · obtain⟨l,hx⟩: ∃l,ls[i]? =some l:=⟨_,aL h⟩
   refine⟨l,hs.2 _ (List.mem_of_getElem? hx),?_⟩
   refine Ev.bU NW (NX _) rfl ?_
   (conv=>whnf);repeat' ((first| intro g| refine aH.mk _ (hN hx) ?_| refine st ?_| (refine aH.bR ?_;intro s) | (first| refine b1 ?_ ?_| refine b2 ?_ ?_| refine Br.mk ?_ ?_) <;>intro hc| exact rfl) <;>conv=>whnf)
 · refine⟨[],by simp,?_⟩
   refine Ev.bU NW (NX _) rfl ?_
   (conv=>whnf);repeat' ((first| intro g| refine st ?_| (refine aH.bR ?_;intro s) | (first| refine b1 ?_ ?_| refine b2 ?_ ?_| refine Br.mk ?_ ?_) <;>intro hc| exact rfl) <;>conv=>whnf)
theorem ur {α:Type} {f:α→V} {l:List α} {k n:Nat} (h:n=min k l.length):aO (l.map f) 0 n=(l.take k).map f:=by
 subst h
 unfold aO
 rw[List.drop_zero,←List.map_take,List.take_eq_take_min (i:=k)]
theorem Tc {α:Type} {f:α→V} {l:List α} {k:Nat} {a b c:V} (x:α): (((((l.map f).set ((k:Int)).toNat a).set ((k:Int)).toNat b).set ((k:Int)).toNat c).set ((k:Int)).toNat (f x))=(l.set k x).map f:=by
 simp only[List.set_set,List.map_set,Int.toNat_natCast]
theorem Td (n:Nat): (if (3:Int) < (n:Int) then(3:Int) else(n:Int)).toNat=min 3 n:=by
 split<;>omega
structure aG.LK (m:aG):Prop where
 an:hG m.an 18
 ah:m.ah.length≤36
 ways:rM m.ways 12
 aw:xh m.aw 6
def aG.vo (m:aG):V:= .agg [.lit 4 (m.an.map Edge.v),.lit 5 (m.ah.map ar.v),.lit 8 (m.ways.map Way.v),.own 7 (m.aw.map Place.v)]
set_option maxHeartbeats 4000000 in
theorem Df {ls:List (List Int)} (hs:wa ls): ∃res,Ev E 77 [fU ls] res∧ ∃m:aG,aG.LK m∧res=⟨m.vo,[]⟩:=by
 refine Ev.cQ SE (SF _) rfl ?_
 have BN:wa (ls.take 3):=⟨by have:=hs.1;simp;omega,fun l h=>hs.2 l (List.mem_of_mem_take h)⟩
 obtain⟨l3,h3,p3⟩:=xi hs 3 (by omega)
 obtain⟨l4,h4,p4⟩:=xi hs 4 (by omega)
 obtain⟨l5,h5,p5⟩:=xi hs 5 (by omega)
 have n2:=fun a=>cg h3 2 (a:=a) (by omega) (by omega)
 have n3:=fun a=>cg h3 3 (a:=a) (by omega) (by omega)
 have n4:=fun a=>cg h3 4 (a:=a) (by omega) (by omega)
 have n6:=fun a=>cg h3 6 (a:=a) (by omega) (by omega)
 have n60:=fun a=>cg h3 60 (a:=a) (by omega) (by omega)
 have hl:=hs.1
 (conv=>whnf);repeat' ((first| intro g| refine aH.mk _ (ur (k:=3) (by rw[List.length_map];exact Td _)) ?_| refine st ?_| (refine aH.bR ?_;intro s) | (first| refine b1 ?_ ?_| refine b2 ?_ ?_| refine Br.mk ?_ ?_) <;>intro hc| exact rfl) <;>conv=>whnf)
 refine ag.ex (Da BN) ?_
 rintro _ ⟨es,fs,he,hf,rfl⟩
 (conv=>whnf);repeat' ((first| intro g| refine ag.mk _ (p3) ?_| refine st ?_| (refine aH.bR ?_;intro s) | (first| refine b1 ?_ ?_| refine b2 ?_ ?_| refine Br.mk ?_ ?_) <;>intro hc| exact rfl) <;>conv=>whnf)
 rename_i g2 g3 gf
 obtain⟨n,hn⟩: ∃n,fs.length=n:=⟨_,rfl⟩
 refine ba.by (fun ((k,fs,a):Nat×List ar×Nat)=> ⟨[(0,fU ls),(2,.ptr 48 g2 0 0),(3,.ptr 64 g3 0 0),(4,.ptr 352 g 0 0),(5,aF k)],
    [(48,⟨g2,4,false,false,some [.agg [.lit 4 [],.lit 5 [],.lit 8 [],.lit 7 []]]⟩),(64,⟨g3,4,false,false,some [.agg [.lit 4 (es.map Edge.v),.sl 232 gf 0 n,.lit 8 [],.lit 7 []]]⟩),(232,⟨gf,5,true,false,some (fs.map ar.v)⟩),(352,⟨g,2,false,false,some [de l3 a]⟩)]⟩)
   (fun (k,fs,a)=>k≤n∧fs.length=n) (fun (k,fs,_)=>n - k) (0,fs,0) (by subst hn; (refine⟨?_,?_⟩ <;>repeat' (first| exact True.intro| refine ai ?_| refine And.intro ?_ ?_))) ⟨by simp,hn⟩ ?_
 rw[hn] at hf;clear hn
 rintro⟨k,fs,a⟩ ⟨hk,ra⟩
 try dsimp only at hk ra
 by_cases bk:k<n
 · obtain⟨f,hx⟩: ∃f,fs[k]? =some f:=⟨_,aL (by omega)⟩
   (conv=>whnf);repeat' ((first| intro g| refine aH.mk _ (lH (lH (lH (aC hx rfl)))) ?_| refine aH.mk _ (lH (lH (aC hx rfl))) ?_| refine aH.mk _ (lH (aC hx rfl)) ?_| refine aH.mk _ (aC hx rfl) ?_| refine ag.mk _ (n2 _) ?_| refine ag.mk _ (n3 _) ?_| refine ag.mk _ (n4 _) ?_| refine ag.mk _ (n6 _) ?_| refine ag.mk _ (n60 _) ?_| refine st ?_| (refine aH.bR ?_;intro s) | (first| refine b1 ?_ ?_| refine b2 ?_ ?_| refine Br.mk ?_ ?_) <;>intro hc| exact rfl) <;>conv=>whnf)
   have jG: ∀c nm w d (x y z:V),((((fs.map ar.v).set ((k:Int)).toNat x).set ((k:Int)).toNat y).set ((k:Int)).toNat z).set ((k:Int)).toNat (ar.v ⟨f.id,c,nm,w,d⟩)=(fs.set k ⟨f.id,c,nm,w,d⟩).map ar.v:=fun c nm w d x y z=>Tc (f:=ar.v) _
   rename_i cl
   exact bc.mk (k+1,fs.set k ⟨f.id,cl,s,IntKind.i64.wrap (1+((fg l3 (b8 l3 (b8 l3 a)) 60:Nat):Int)),IntKind.i64.wrap (1+(IntKind.i64.wrap (((fg l3 (b8 l3 (b8 l3 (b8 l3 a))) 4:Nat):Int)*((fg l3 (b8 l3 (b8 l3 (b8 l3 (b8 l3 a)))) 2:Nat):Int))).tmod 3)⟩,(b8 l3 (b8 l3 (b8 l3 (b8 l3 (b8 l3 a)))))) (by first| omega| (dsimp only;omega)) ⟨(by first| omega| (dsimp only;omega)),by simp[ra]⟩ (by(refine⟨?_,?_⟩ <;>repeat' (first| exact True.intro| refine And.intro (congrArg (fun L=> (⟨gf,5,true,false,some L⟩:Obj)) (jG cl s (IntKind.i64.wrap (1+((fg l3 (b8 l3 (b8 l3 a)) 60:Nat):Int))) (IntKind.i64.wrap (1+(IntKind.i64.wrap (((fg l3 (b8 l3 (b8 l3 (b8 l3 a))) 4:Nat):Int)*((fg l3 (b8 l3 (b8 l3 (b8 l3 (b8 l3 a)))) 2:Nat):Int))).tmod 3)) _ _ _)) ?_| refine ai ?_| refine And.intro ?_ ?_)))
 · obtain rfl:k=n:=by omega
   (conv=>whnf);repeat' ((first| intro g| refine ag.mk _ (p4) ?_| refine st ?_| (refine aH.bR ?_;intro s) | (first| refine b1 ?_ ?_| refine b2 ?_ ?_| refine Br.mk ?_ ?_) <;>intro hc| exact rfl) <;>conv=>whnf)
   refine ag.ex (HE h4) ?_
   rintro _ ⟨ws,hw,rfl⟩
   (conv=>whnf);repeat' ((first| intro g| refine ag.mk _ (p5) ?_| refine st ?_| (refine aH.bR ?_;intro s) | (first| refine b1 ?_ ?_| refine b2 ?_ ?_| refine Br.mk ?_ ?_) <;>intro hc| exact rfl) <;>conv=>whnf)
   refine ag.ex (Dd h5 (m:=⟨es,fs,ws,[]⟩) he (by omega) (by dsimp only;omega)) ?_
   rintro _ ⟨ps,hp,rfl⟩
   (conv=>whnf);repeat' ((first| intro g| refine st ?_| (refine aH.bR ?_;intro s) | (first| refine b1 ?_ ?_| refine b2 ?_ ?_| refine Br.mk ?_ ?_) <;>intro hc| exact rfl) <;>conv=>whnf)
   exact⟨⟨es,fs,ws,ps⟩,⟨he,by dsimp only;omega,hw,hp⟩,rfl⟩
end Go.AM
set_option maxRecDepth 20000
namespace Go.AM
theorem xj (ps:List Pt) (h:ps.length< 1000):Ev E 130 [iP ps] ⟨.own 2 (ps.map Pt.v),[]⟩:=by
 refine Ev.bU OC (OD _) rfl ?_
 (conv=>whnf);repeat' ((first| intro g| refine st ?_| (first| refine b1 ?_ ?_| refine b2 ?_ ?_| refine Br.mk ?_ ?_) <;>intro hc| exact rfl) <;>conv=>whnf)
theorem dt (n:Nat): ∃s:EC,Ev E 95 [aF n] ⟨.str s,[]⟩:=by
 have key:=Ev.cQ (R:=fun res=> ∃s:EC,res=⟨.str s,[]⟩) SQ (SR [aF n]) rfl ?_
 · obtain⟨res,h1,s,rfl⟩:=key
   exact⟨s,h1⟩
 obtain⟨k,hk,Wn⟩: ∃k:Nat,(n:Int).tmod 10=(k:Int)∧k< 10:=by
   refine⟨((n:Int).tmod 10).toNat,?_,?_⟩
   · have:=Int.tmod_nonneg (b:=(10:Int)) (a:=(n:Int)) (by omega)
     omega
   · have:=Int.tmod_nonneg (b:=(10:Int)) (a:=(n:Int)) (by omega)
     have:=Int.tmod_lt_of_pos (n:Int) (show (0:Int) < 10 by decide)
     omega
 (conv=>whnf);repeat' ((first| intro g| refine st ?_| (first| refine b1 ?_ ?_| refine b2 ?_ ?_| refine Br.mk ?_ ?_) <;>intro hc| exact rfl) <;>conv=>whnf)
 rw[hk]
 rcases(by omega:k=0∨k=1∨k=2∨k=3∨k=4∨k=5∨k=6∨k=7∨k=8∨k=9) with rfl| rfl| rfl| rfl| rfl| rfl| rfl| rfl| rfl| rfl
 all_goals
   (conv=>whnf);repeat' ((first| intro g| refine st ?_| (first| refine b1 ?_ ?_| refine b2 ?_ ?_| refine Br.mk ?_ ?_) <;>intro hc| exact rfl) <;>conv=>whnf)
   exact⟨_,rfl⟩
theorem fv {α:Type} {l:List α} {k:Nat} {x:α} (h:l[k]? =some x):l.take (k+1)=l.take k++[x]:=by
 rw[List.take_add_one,h];rfl
set_option maxHeartbeats 4000000 in
theorem By {m:aG} (h1:m.an.length< 1000) (h2:m.ways.length< 1000) (h3:m.ah.length< 1000) (h4:m.aw.length< 1000) (h5: ∀e ∈ m.an,e.line.length< 1000) (h6: ∀w ∈ m.ways,w.line.length< 1000): ∃res,Ev E 92 [m.v] res∧ ∃e w,(e= .nils∧m.an=[]∨e= .own 4 (m.an.map Edge.v))∧(w= .nils∧m.ways=[]∨w= .own 8 (m.ways.map Way.v))∧res=⟨.agg [e,.own 5 (m.ah.map ar.v),w,.own 7 (m.aw.map Place.v)],[]⟩:=by
 refine Ev.cQ SO (SP _) rfl ?_
 (conv=>whnf);repeat' ((first| intro g| refine aH.mk _ (bz rfl) ?_| refine st ?_| (first| refine b1 ?_ ?_| refine b2 ?_ ?_| refine Br.mk ?_ ?_) <;>intro hc| exact rfl) <;>conv=>whnf)
 rename_i HL HM _ sV _ sW
 obtain⟨HN,PJ⟩: ∃x,x=g:=⟨_,rfl⟩
 rw[←PJ];clear PJ
 refine ba.by (fun ((k,L,ce):Nat×List Edge×Option Nat)=> ⟨[(1,.ptr 32 HL 0 0),(2,.ptr 48 HM 0 0),(3,.ptr 64 HN 0 0),(4,aF k)],
     match ce with
     | none=> [(32,⟨HL,4,false,false,some [m.v]⟩),(48,⟨HM,4,false,false,some [.agg [.lit 4 [],.lit 5 [],.lit 8 [],.lit 7 []]]⟩),(144,⟨sV,5,true,false,some (m.ah.map ar.v)⟩),(208,⟨sW,7,true,false,some (m.aw.map Place.v)⟩),(64,⟨HN,4,false,false,some [.agg [.nils,.sl 144 sV 0 m.ah.length,.nils,.sl 208 sW 0 m.aw.length]]⟩)]
     | some IQ=> [(32,⟨HL,4,false,false,some [m.v]⟩),(48,⟨HM,4,false,false,some [.agg [.lit 4 [],.lit 5 [],.lit 8 [],.lit 7 []]]⟩),(144,⟨sV,5,true,false,some (m.ah.map ar.v)⟩),(208,⟨sW,7,true,false,some (m.aw.map Place.v)⟩),(64,⟨HN,4,false,false,some [.agg [.sl 66 IQ 0 L.length,.sl 144 sV 0 m.ah.length,.nils,.sl 208 sW 0 m.aw.length]]⟩),(66,⟨IQ,4,true,false,some (L.map Edge.v)⟩)]⟩)
   (fun (k,L,ce)=>k≤m.an.length∧L.length=k∧L=m.an.take k∧(ce=none→L=[])) (fun (k,_)=>m.an.length - k) (0,[],none) (by(refine⟨?_,?_⟩ <;>repeat' (first| exact True.intro| refine ai ?_| refine And.intro ?_ ?_))) ⟨by simp,by simp,by simp,by simp⟩ ?_
 rintro⟨k,L,ce⟩ ⟨hk,hL,Te,R0⟩
 try dsimp only at hk hL Te R0
 by_cases bk:k<m.an.length
 · obtain⟨e,he⟩: ∃e,m.an[k]? =some e:=⟨_,aL bk⟩
   have hle:=xj e.line (h5 e (List.mem_of_getElem? he))
   have U3:L++[e]=m.an.take (k+1):=by rw[Te];exact(fv he).symm
   cases ce with
   | none=>
     obtain rfl:=R0 rfl
     (conv=>whnf);repeat' ((first| intro g| refine aH.mk _ (aC he rfl) ?_| refine ag.mk _ (hle) ?_| refine st ?_| (first| refine b1 ?_ ?_| refine b2 ?_ ?_| refine Br.mk ?_ ?_) <;>intro hc| exact rfl) <;>conv=>whnf)
     exact bc.mk (k+1,[e],some g) (by first| omega| (dsimp only;omega)) ⟨(by first| omega| (dsimp only;omega)),by simp at hL ⊢;omega,U3,by simp⟩ (by(refine⟨?_,?_⟩ <;>repeat' (first| exact True.intro| refine ai ?_| refine And.intro ?_ ?_)))
   | some IQ=>
     (conv=>whnf);repeat' ((first| intro g| refine aH.mk _ (aC he rfl) ?_| refine ag.mk _ (hle) ?_| refine st ?_| (first| refine b1 ?_ ?_| refine b2 ?_ ?_| refine Br.mk ?_ ?_) <;>intro hc| exact rfl) <;>conv=>whnf)
     exact bc.mk (k+1,L++[e],some g) (by first| omega| (dsimp only;omega)) ⟨(by first| omega| (dsimp only;omega)),by simp;omega,U3,by simp⟩ (by(refine⟨?_,?_⟩ <;>repeat' (first| exact True.intro| refine ai ?_| refine And.intro ?_ ?_)))
 · obtain rfl:L=m.an:=by rw[Te,List.take_of_length_le (by omega)]
   cases ce with
   | none=>
     (conv=>whnf);repeat' ((first| intro g| refine st ?_| (first| refine b1 ?_ ?_| refine b2 ?_ ?_| refine Br.mk ?_ ?_) <;>intro hc| exact rfl) <;>conv=>whnf)
     refine ba.by (fun ((j,K,cw):Nat×List Way×Option Nat)=> ⟨[(1,.ptr 32 HL 0 0),(2,.ptr 48 HM 0 0),(3,.ptr 64 HN 0 0),(6,aF j)],
     match cw with
     | none=> [(32,⟨HL,4,false,false,some [m.v]⟩),(48,⟨HM,4,false,false,some [.agg [.lit 4 [],.lit 5 [],.lit 8 [],.lit 7 []]]⟩),(144,⟨sV,5,true,false,some (m.ah.map ar.v)⟩),(208,⟨sW,7,true,false,some (m.aw.map Place.v)⟩),(64,⟨HN,4,false,false,some [.agg [.nils,.sl 144 sV 0 m.ah.length,.nils,.sl 208 sW 0 m.aw.length]]⟩)]
     | some HO=> [(32,⟨HL,4,false,false,some [m.v]⟩),(48,⟨HM,4,false,false,some [.agg [.lit 4 [],.lit 5 [],.lit 8 [],.lit 7 []]]⟩),(144,⟨sV,5,true,false,some (m.ah.map ar.v)⟩),(208,⟨sW,7,true,false,some (m.aw.map Place.v)⟩),(64,⟨HN,4,false,false,some [.agg [.nils,.sl 144 sV 0 m.ah.length,.sl 68 HO 0 K.length,.sl 208 sW 0 m.aw.length]]⟩),(68,⟨HO,8,true,false,some (K.map Way.v)⟩)]⟩)
       (fun (j,K,cw)=>j≤m.ways.length∧K.length=j∧K=m.ways.take j∧(cw=none→K=[])) (fun (j,_)=>m.ways.length - j) (0,[],none) (by(refine⟨?_,?_⟩ <;>repeat' (first| exact True.intro| refine ai ?_| refine And.intro ?_ ?_))) ⟨by simp,by simp,by simp,by simp⟩ ?_
     rintro⟨j,K,cw⟩ ⟨hj,hK,LL,LM⟩
     try dsimp only at hj hK LL LM
     by_cases Tf:j<m.ways.length
     · obtain⟨w,hw⟩: ∃w,m.ways[j]? =some w:=⟨_,aL Tf⟩
       have Ff:=xj w.line (h6 w (List.mem_of_getElem? hw))
       have PK:K++[w]=m.ways.take (j+1):=by rw[LL];exact(fv hw).symm
       cases cw with
       | none=>
         obtain rfl:=LM rfl
         (conv=>whnf);repeat' ((first| intro g| refine aH.mk _ (aC hw rfl) ?_| refine ag.mk _ (Ff) ?_| refine st ?_| (first| refine b1 ?_ ?_| refine b2 ?_ ?_| refine Br.mk ?_ ?_) <;>intro hc| exact rfl) <;>conv=>whnf)
         exact bc.mk (j+1,[w],some g) (by first| omega| (dsimp only;omega)) ⟨(by first| omega| (dsimp only;omega)),by simp at hK ⊢;omega,PK,by simp⟩ (by(refine⟨?_,?_⟩ <;>repeat' (first| exact True.intro| refine ai ?_| refine And.intro ?_ ?_)))
       | some HO=>
         (conv=>whnf);repeat' ((first| intro g| refine aH.mk _ (aC hw rfl) ?_| refine ag.mk _ (Ff) ?_| refine st ?_| (first| refine b1 ?_ ?_| refine b2 ?_ ?_| refine Br.mk ?_ ?_) <;>intro hc| exact rfl) <;>conv=>whnf)
         exact bc.mk (j+1,K++[w],some g) (by first| omega| (dsimp only;omega)) ⟨(by first| omega| (dsimp only;omega)),by simp;omega,PK,by simp⟩ (by(refine⟨?_,?_⟩ <;>repeat' (first| exact True.intro| refine ai ?_| refine And.intro ?_ ?_)))
     · obtain rfl:K=m.ways:=by rw[LL,List.take_of_length_le (by omega)]
       cases cw with
       | none=>
         (conv=>whnf);repeat' ((first| intro g| refine st ?_| (first| refine b1 ?_ ?_| refine b2 ?_ ?_| refine Br.mk ?_ ?_) <;>intro hc| exact rfl) <;>conv=>whnf)
         exact⟨_,_,.inl ⟨rfl,R0 rfl⟩,.inl ⟨rfl,LM rfl⟩,rfl⟩
       | some HO=>
         (conv=>whnf);repeat' ((first| intro g| refine st ?_| (first| refine b1 ?_ ?_| refine b2 ?_ ?_| refine Br.mk ?_ ?_) <;>intro hc| exact rfl) <;>conv=>whnf)
         exact⟨_,_,.inl ⟨rfl,R0 rfl⟩,.inr rfl,rfl⟩
   | some IQ=>
     (conv=>whnf);repeat' ((first| intro g| refine st ?_| (first| refine b1 ?_ ?_| refine b2 ?_ ?_| refine Br.mk ?_ ?_) <;>intro hc| exact rfl) <;>conv=>whnf)
     refine ba.by (fun ((j,K,cw):Nat×List Way×Option Nat)=> ⟨[(1,.ptr 32 HL 0 0),(2,.ptr 48 HM 0 0),(3,.ptr 64 HN 0 0),(6,aF j)],
     match cw with
     | none=> [(32,⟨HL,4,false,false,some [m.v]⟩),(48,⟨HM,4,false,false,some [.agg [.lit 4 [],.lit 5 [],.lit 8 [],.lit 7 []]]⟩),(144,⟨sV,5,true,false,some (m.ah.map ar.v)⟩),(208,⟨sW,7,true,false,some (m.aw.map Place.v)⟩),(64,⟨HN,4,false,false,some [.agg [.sl 66 IQ 0 m.an.length,.sl 144 sV 0 m.ah.length,.nils,.sl 208 sW 0 m.aw.length]]⟩),(66,⟨IQ,4,true,false,some (m.an.map Edge.v)⟩)]
     | some HO=> [(32,⟨HL,4,false,false,some [m.v]⟩),(48,⟨HM,4,false,false,some [.agg [.lit 4 [],.lit 5 [],.lit 8 [],.lit 7 []]]⟩),(144,⟨sV,5,true,false,some (m.ah.map ar.v)⟩),(208,⟨sW,7,true,false,some (m.aw.map Place.v)⟩),(64,⟨HN,4,false,false,some [.agg [.sl 66 IQ 0 m.an.length,.sl 144 sV 0 m.ah.length,.sl 68 HO 0 K.length,.sl 208 sW 0 m.aw.length]]⟩),(66,⟨IQ,4,true,false,some (m.an.map Edge.v)⟩),(68,⟨HO,8,true,false,some (K.map Way.v)⟩)]⟩)
       (fun (j,K,cw)=>j≤m.ways.length∧K.length=j∧K=m.ways.take j∧(cw=none→K=[])) (fun (j,_)=>m.ways.length - j) (0,[],none) (by(refine⟨?_,?_⟩ <;>repeat' (first| exact True.intro| refine ai ?_| refine And.intro ?_ ?_))) ⟨by simp,by simp,by simp,by simp⟩ ?_
     rintro⟨j,K,cw⟩ ⟨hj,hK,LL,LM⟩
     try dsimp only at hj hK LL LM
     by_cases Tf:j<m.ways.length
     · obtain⟨w,hw⟩: ∃w,m.ways[j]? =some w:=⟨_,aL Tf⟩
       have Ff:=xj w.line (h6 w (List.mem_of_getElem? hw))
       have PK:K++[w]=m.ways.take (j+1):=by rw[LL];exact(fv hw).symm
       cases cw with
       | none=>
         obtain rfl:=LM rfl
         (conv=>whnf);repeat' ((first| intro g| refine aH.mk _ (aC hw rfl) ?_| refine ag.mk _ (Ff) ?_| refine st ?_| (first| refine b1 ?_ ?_| refine b2 ?_ ?_| refine Br.mk ?_ ?_) <;>intro hc| exact rfl) <;>conv=>whnf)
         exact bc.mk (j+1,[w],some g) (by first| omega| (dsimp only;omega)) ⟨(by first| omega| (dsimp only;omega)),by simp at hK ⊢;omega,PK,by simp⟩ (by(refine⟨?_,?_⟩ <;>repeat' (first| exact True.intro| refine ai ?_| refine And.intro ?_ ?_)))
       | some HO=>
         (conv=>whnf);repeat' ((first| intro g| refine aH.mk _ (aC hw rfl) ?_| refine ag.mk _ (Ff) ?_| refine st ?_| (first| refine b1 ?_ ?_| refine b2 ?_ ?_| refine Br.mk ?_ ?_) <;>intro hc| exact rfl) <;>conv=>whnf)
         exact bc.mk (j+1,K++[w],some g) (by first| omega| (dsimp only;omega)) ⟨(by first| omega| (dsimp only;omega)),by simp;omega,PK,by simp⟩ (by(refine⟨?_,?_⟩ <;>repeat' (first| exact True.intro| refine ai ?_| refine And.intro ?_ ?_)))
     · obtain rfl:K=m.ways:=by rw[LL,List.take_of_length_le (by omega)]
       cases cw with
       | none=>
         (conv=>whnf);repeat' ((first| intro g| refine st ?_| (first| refine b1 ?_ ?_| refine b2 ?_ ?_| refine Br.mk ?_ ?_) <;>intro hc| exact rfl) <;>conv=>whnf)
         exact⟨_,_,.inr rfl,.inl ⟨rfl,LM rfl⟩,rfl⟩
       | some HO=>
         (conv=>whnf);repeat' ((first| intro g| refine st ?_| (first| refine b1 ?_ ?_| refine b2 ?_ ?_| refine Br.mk ?_ ?_) <;>intro hc| exact rfl) <;>conv=>whnf)
         exact⟨_,_,.inr rfl,.inr rfl,rfl⟩
end Go.AM
set_option maxRecDepth 20000
namespace Go.AM
def pz (m:aG) (es:List Edge) (fs:List ar) (res:fK):Prop:=
 ∃v,res=⟨v,[]⟩∧ ∀ (r:Nat) (k:V→bB),da false r [] v k=k (.tuple [(aG.mk es fs m.ways m.aw).v,vi 0])
theorem fw {m:aG} {es:List Edge} {fs:List ar} {e w:V} (he:e= .lit 4 (es.map Edge.v)∨e= .own 4 (es.map Edge.v)) (hw:w= .lit 8 (m.ways.map Way.v)∨w= .own 8 (m.ways.map Way.v)):
  pz m es fs ⟨.tuple [.agg [e,.own 5 (fs.map ar.v),w,.own 7 (m.aw.map Place.v)],.int .i64 0],[]⟩:=by
 refine⟨_,rfl,fun r k=> ?_⟩
 rcases he with rfl| rfl<;>rcases hw with rfl| rfl<;>rfl
theorem IS (sz:Nat) (l:List V):oL sz l= .lit sz l∨oL sz l= .own sz l:=by
 cases l<;>simp[oL]
theorem Fg (m:aG) (es:List Edge) (fs:List ar):pz m es fs ⟨Ar m es fs,[]⟩:=fw (IS ..) (IS ..)
set_option maxHeartbeats 4000000 in
theorem AJ {m:aG} (hs:rJ m) (a b:Int) (hc:jX m a b≠0):Ev E 486 [m.v,vi a,vi b] ⟨.tuple [aG.zero.v,vi (jX m a b)],[]⟩:=by
 have h2:=qv (m:=m) ⟨by have:=hs.e;omega,by have:=hs.f;omega⟩ a b
 generalize jX m a b=c at*
 refine Ev.bU yg (yh _) rfl ?_
 (conv=>whnf);repeat' ((first| intro g| refine ag.mk _ (h2) ?_| refine st ?_| (first| refine b1 ?_ ?_| refine b2 ?_ ?_| refine Br.mk ?_ ?_) <;>intro hc| exact rfl) <;>conv=>whnf)
theorem lM {es:List Edge} {a b:Int} {e:Edge}: ∀ {n:Nat},e ∈ bA es a b n→ ∃e' ∈ es,e.line=e'.line
 | 0,h=>by simp[bA] at h
 | n+1,h=>by
   cases hx:es[n]? with
   | none=>rw[bA,hx] at h;exact lM h
   | some x=>
     rw[bA,hx] at h
     simp only at h
     split at h
     · exact lM h
     · rcases List.mem_append.1 h with h| h
       · exact lM h
       · have:e=b6 a b x:=by simpa using h
         exact⟨x,List.mem_of_getElem? hx,by rw[this];rfl⟩
end Go.AM
