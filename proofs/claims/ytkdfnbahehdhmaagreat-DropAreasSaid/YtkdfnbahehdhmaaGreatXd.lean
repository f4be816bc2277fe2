/-
  Texts of the proof, joined by program: DaH, DaI, DaJ, DaK. Own work.
-/
import Derived.Test.YtkdfnbahehdhmaaGreatXc
set_option linter.unusedSimpArgs false
set_option linter.unusedVariables false
set_option maxRecDepth 20000
set_option maxHeartbeats 2000000
namespace Go.AM
theorem xZ (skip:Bool) (n:Int): ∀ (ps:List Pt) (i:Nat),∀x ∈ qC skip n i (ps.map Pt.v),∃p q:Pt,x=[p.v,q.v]
 | [],i,x,h=>by simp[qC] at h
 | [p],i,x,h=>by simp[qC] at h
 | p::q::r,i,x,h=>by
   simp only[List.map_cons,qC] at h
   rcases List.mem_append.1 h with h| h
   · split at h
     · simp at h
     · exact⟨p,q,by simpa using h⟩
   · exact xZ skip n (q::r) (i+1) x h
theorem ya (e n:Int): ∀ (es:List Edge) (k:Nat),(∀x ∈ es,x.line.length< 1000000)→ ∃xs,vW e n k (es.map Edge.v)=some xs∧ ∀x ∈ xs,∃p q:Pt,x=[p.v,q.v]
 | [],k,_=> ⟨[],rfl,by simp⟩
 | a::es,k,h=>by
   obtain⟨xs,h1,h2⟩:=ya e n es (k+1) fun x hx=>h x (by simp[hx])
   have ha:=h a (by simp)
   have hc: (a.line.map Pt.v).length< 4611686018427387904∧(a.line.map Pt.v).all EV=true:=by
     refine⟨by simp;omega,?_⟩
     rw[List.all_eq_true]
     intro v hv
     obtain⟨p,_,rfl⟩:=List.mem_map.1 hv
     rfl
   refine⟨qC (decide ((k:Int)=e)) n 0 (a.line.map Pt.v)++xs,?_,fun x hx=> ?_⟩
   · show (if (a.line.map Pt.v).length< 4611686018427387904∧(a.line.map Pt.v).all EV=true then(vW e n (k+1) (es.map Edge.v)).map (qC (decide ((k:Int)=e)) n 0 (a.line.map Pt.v)++ ·) else none)=_
     rw[if_pos hc,h1];rfl
   · rcases List.mem_append.1 hx with hx| hx
     · exact xZ _ _ _ _ x hx
     · exact h2 x hx
theorem EE {m:cJ} (h:m.Fit) (q:gB m): ∃xs,E.iter 564 [.eptr m.v 0,.eptr q.v 0]=some xs∧ ∀x ∈ xs,∃p q:Pt,x=[p.v,q.v]:=by
 obtain⟨xs,h1,h2⟩:=ya (q.k:Int) (q.n:Int) m.aY 0 h.el
 refine⟨xs,?_,h2⟩
 have hb:=(List.getElem?_eq_some_iff.1 q.hb).1
 have:=q.hl
 have:=h.e
 show (if (m.aY.map Edge.v).length< 4611686018427387904∧(0:Int)≤(q.n:Int)∧(q.n:Int) < 4611686018427387904 then vW (q.k:Int) (q.n:Int) 0 (m.aY.map Edge.v) else none)=_
 rw[if_pos ⟨by simp;omega,by omega,by omega⟩,h1]
theorem B4 {m:cJ} (q:gB m):Ev E 552 [q.v,m.v] ⟨.fn 564 [.eptr m.v 0,.eptr q.v 0],[]⟩:=by
 refine Ev.bY Ot (Ou _) rfl ?_
 (conv=>whnf);repeat' ((first| intro g| refine st ?_| (first| refine b1 ?_ ?_| refine b2 ?_ ?_| refine Br.mk ?_ ?_) <;>intro hc| exact rfl) <;>conv=>whnf)
theorem B5 {m:cJ} (q:gB m) (p:Place): ∃r:Bool,Ev E 555 [p.v,.eptr q.v 0] ⟨.bool r,[]⟩:=by
 have key:=Ev.bT (R:=fun res=> ∃r:Bool,res=⟨.bool r,[]⟩) Oz (OA [p.v,.eptr q.v 0]) rfl ?_
 · obtain⟨res,h1,r,rfl⟩:=key
   exact⟨r,h1⟩
 (conv=>whnf);repeat' ((first| intro g| refine ak.mk _ (Mo q.a q.b q.c ⟨p.x,p.y⟩) ?_| refine st ?_| (first| refine b1 ?_ ?_| refine b2 ?_ ?_| refine Br.mk ?_ ?_) <;>intro hc| exact rfl) <;>conv=>whnf)
 all_goals exact⟨_,rfl⟩
theorem B6 {m:cJ} (h:m.Fit) (q:gB m): ∃r:Bool,Ev E 541 [q.v,m.v] ⟨.bool r,[]⟩:=by
 have key:=Ev.bT (R:=fun res=> ∃r:Bool,res=⟨.bool r,[]⟩) NR (NS [q.v,m.v]) rfl ?_
 · obtain⟨res,h1,r,rfl⟩:=key
   exact⟨r,h1⟩
 have hp:=h.p
 obtain⟨cb,hc⟩: ∃cb:Bool,Ev E 554 [.lit 7 (m.eH.map Place.v),.fn 555 [.eptr q.v 0]] ⟨.bool cb,[]⟩:=⟨_,BU (l:=m.eH) (caps:=[.eptr q.v 0]) rfl (by omega) (fun x=> (B5 q x).choose_spec) rfl⟩
 obtain⟨xs,hx,zy⟩:=EE h q
 (conv=>whnf);repeat' ((first| intro g| refine ak.mk _ (B4 q) ?_| refine st ?_| (first| refine b1 ?_ ?_| refine b2 ?_ ?_| refine Br.mk ?_ ?_) <;>intro hc| exact rfl) <;>conv=>whnf)
 rename_i g48 GR
 refine pj.by xs rfl hx (fun x hx=>by obtain⟨p,q,rfl⟩:=zy x hx;rfl) (fun (_:Unit)=> [(48,⟨g48,8,false,false,some [q.v]⟩),(64,⟨GR,4,false,false,some [m.v]⟩),(96,⟨g,1,false,false,some [.bool true]⟩)]) (fun k a=>True) () (by(repeat' (first| exact True.intro| refine ai ?_| refine And.intro ?_ ?_))) trivial ?_ ?_
 · rintro k x u Ez v
   obtain⟨d,e,rfl⟩:=zy x (List.mem_of_getElem? Ez)
   (conv=>whnf);repeat' ((first| intro g| refine ak.mk _ (zK q.a q.b q.c d e) ?_| refine ak.mk _ (hc) ?_| refine st ?_| (first| refine b1 ?_ ?_| refine b2 ?_ ?_| refine Br.mk ?_ ?_) <;>intro hc| exact rfl) <;>conv=>whnf)
   all_goals first| (refine EX.mk () trivial ?_; (repeat' (first| exact True.intro| refine ai ?_| refine And.intro ?_ ?_))) | exact⟨_,rfl⟩
 · rintro _ _
   (conv=>whnf);repeat' ((first| intro g| refine ak.mk _ (hc) ?_| refine st ?_| (first| refine b1 ?_ ?_| refine b2 ?_ ?_| refine Br.mk ?_ ?_) <;>intro hc| exact rfl) <;>conv=>whnf)
   all_goals exact⟨_,rfl⟩
theorem GA {m:cJ} (h:m.Fit) (q:gB m): ∃r:Int,Ev E 526 [m.v,vi q.e.id,aM q.n] ⟨vi r,[]⟩:=by
 have key:=Ev.bT (R:=fun res=> ∃r:Int,res=⟨vi r,[]⟩) NC (ND [m.v,vi q.e.id,aM q.n]) rfl ?_
 · obtain⟨res,h1,r,rfl⟩:=key
   exact⟨r,h1⟩
 have pz:=EB h q
 have Xr:=AE q
 obtain⟨r1,h1⟩:=B3 h q.e
 obtain⟨r2,h2⟩:=B6 h q
 obtain⟨r3,h3⟩:=BW q.rest (by simp[gB.rest,List.length_eraseIdx];have:=q.hl;split<;>omega)
 have he:=q.he
 (conv=>whnf);repeat' ((first| intro g| refine bd.mk _ (aJ he rfl) ?_| refine ak.mk _ (pz) ?_| refine ak.mk _ (h1) ?_| refine ak.mk _ (Xr) ?_| refine ak.mk _ (h3) ?_| refine ak.mk _ (h2) ?_| refine st ?_| (first| refine b1 ?_ ?_| refine b2 ?_ ?_| refine Br.mk ?_ ?_) <;>intro hc| exact rfl) <;>conv=>whnf)
 all_goals exact⟨_,rfl⟩
end Go.AM
set_option maxRecDepth 20000
set_option maxHeartbeats 2000000
namespace Go.AM
def kc (l:List Pt):Nat→Int
 | 0=>0
 | k+1=>match l[k]?,l[k+1]? with
   | some p,some q=>fj (kc l k+pN p q)
   | _,_=>kc l k
def uJ (l:List Pt):Int:=kc l (l.length - 1)
def lF (e:Edge) (f s:Int):Int:=
 let s1:=if e.left=f then fj (s+uJ e.line) else s
 if e.right=f then fj (s1 - uJ e.line) else s1
def iE (es:List Edge) (f:Int):Nat→Int
 | 0=>0
 | k+1=>match es[k]? with
   | some e=>lF e f (iE es f k)
   | none=>iE es f k
def oQ (es:List Edge) (f:Int):Int:=iE es f es.length
theorem xH {es:List Edge} (h:es.length< 1000000) (hl: ∀e ∈ es,e.line.length< 1000000) (f:Int):Ev E 531 [.lit 4 (es.map Edge.v),vi f] ⟨vi (oQ es f),[]⟩:=by
 refine Ev.bY NH (NI _) rfl ?_
 (conv=>whnf);repeat' ((first| intro g| refine st ?_| (first| refine b1 ?_ ?_| refine b2 ?_ ?_| refine Br.mk ?_ ?_) <;>intro hc| exact rfl) <;>conv=>whnf)
 refine a9.by (fun (i:Nat)=> ⟨[(1,vi f),(5,vi (iE es f i)),(10,.lit 4 (es.map Edge.v)),(11,aM (es.map Edge.v).length),(12,aM i)],[]⟩) (fun i=>i≤es.length) (fun i=>es.length - i) 0 (by(refine⟨?_,?_⟩ <;>repeat' (first| exact True.intro| refine ai ?_| refine And.intro ?_ ?_))) (by simp) ?_
 rintro i hi
 by_cases bJ:i<es.length
 · obtain⟨e,he⟩: ∃e,es[i]? =some e:=⟨_,bu bJ⟩
   have oV:=hl e (List.mem_of_getElem? he)
   have kM:iE es f (i+1)=lF e f (iE es f i):=by simp only[iE,he]
   generalize iE es f i=s at*
   (conv=>whnf);repeat' ((first| intro g| refine bd.mk _ (aJ he rfl) ?_| refine st ?_| (first| refine b1 ?_ ?_| refine b2 ?_ ?_| refine Br.mk ?_ ?_) <;>intro hc| exact rfl) <;>conv=>whnf)
   refine a9.by (fun (k:Nat)=> ⟨[(1,vi f),(5,vi s),(7,.ptr 128 g 0 0),(8,vi (kc e.line k)),(9,aM (k+1)),(10,.lit 4 (es.map Edge.v)),(11,aM (es.map Edge.v).length),(12,aM i)],
     [(128,⟨g,4,false,false,some [e.v]⟩)]⟩) (fun k=>k≤e.line.length - 1) (fun k=>e.line.length - 1 - k) 0 (by(refine⟨?_,?_⟩ <;>repeat' (first| exact True.intro| refine ai ?_| refine And.intro ?_ ?_))) (by simp) ?_
   rintro k hk
   by_cases jd:k+1 <e.line.length
   · obtain⟨p,hp⟩: ∃e',e.line[k]? =some e':=⟨_,bu (by omega)⟩
     obtain⟨q,hq⟩: ∃e',e.line[k+1]? =some e':=⟨_,bu (by omega)⟩
     have Xs:kc e.line (k+1)=fj (kc e.line k+pN p q):=by simp only[kc,hp,hq]
     have w1:IntKind.i64.wrap (((k+1:Nat):Int) - 1)=(k:Int):=(wrap64 (by omega) (by omega)).trans (by omega)
     generalize kc e.line k=ar at*
     (conv=>whnf);repeat' ((first| intro g| refine bd.mk _ (aJ hp w1) ?_| refine bd.mk _ (aJ hq rfl) ?_| refine ak.mk _ (xX p q) ?_| refine st ?_| (first| refine b1 ?_ ?_| refine b2 ?_ ?_| refine Br.mk ?_ ?_) <;>intro hc| exact rfl) <;>conv=>whnf)
     refine br.mk (k+1) (by first| omega| (dsimp only;omega)) (by omega) ?_
     simp only[Xs]
     (refine⟨?_,?_⟩ <;>repeat' (first| exact True.intro| refine ai ?_| refine And.intro ?_ ?_))
   · obtain Cc:k=e.line.length - 1:=by omega
     have har:kc e.line k=uJ e.line:=by rw[Cc];rfl
     rw[har]
     have ef: ¬ ((k+1:Nat):Int) < ((e.line.map Pt.v).length:Int):=by rw[List.length_map];omega
     simp only[lF] at kM
     generalize uJ e.line=A at*
     (conv=>whnf);repeat' ((first| contradiction| intro g| refine st ?_| (first| refine b1 ?_ ?_| refine b2 ?_ ?_| refine Br.mk ?_ ?_) <;>intro hc| exact rfl) <;>conv=>whnf)
     all_goals
      refine br.mk (i+1) (by first| omega| (dsimp only;omega)) (by omega) ?_
      simp only[kM,if_true,if_false, *]
      (refine⟨?_,?_⟩ <;>repeat' (first| exact True.intro| refine ai ?_| refine And.intro ?_ ?_))
 obtain rfl:i=es.length:=by omega
 (conv=>whnf);repeat' ((first| intro g| refine st ?_| (first| refine b1 ?_ ?_| refine b2 ?_ ?_| refine Br.mk ?_ ?_) <;>intro hc| exact rfl) <;>conv=>whnf)
def tD (e:Edge) (j:Nat):List Pt:=(List.range j).map fun (i:Nat)=> (⟨e.id,((i+1:Nat):Int)⟩:Pt)
def oL (es:List Edge):Nat→List Pt
 | 0=> []
 | k+1=>match es[k]? with
   | some e=>oL es k++tD e (e.line.length - 2)
   | none=>oL es k
theorem xF (e:Edge) (j:Nat): (tD e j).length=j:=by simp[tD]
theorem B7 (e:Edge) (j:Nat):tD e (j+1)=tD e j++[⟨e.id,((j+1:Nat):Int)⟩]:=by
 simp[tD,List.range_succ]
theorem zF {m:cJ} (h:m.aY.length< 1000) (hl: ∀e ∈ m.aY,e.line.length< 1000):Ev E 523 [m.v] ⟨.own 2 ((oL m.aY m.aY.length).map Pt.v),[]⟩:=by
 refine Ev.bY NA (NB _) rfl ?_
 (conv=>whnf);repeat' ((first| intro g| refine st ?_| (first| refine b1 ?_ ?_| refine b2 ?_ ?_| refine Br.mk ?_ ?_) <;>intro hc| exact rfl) <;>conv=>whnf)
 refine a9.by (fun ((i,L,g):Nat×List Pt×Nat)=> ⟨[(3,.sl 65 g 0 L.length),(8,.lit 4 (m.aY.map Edge.v)),(9,aM (m.aY.map Edge.v).length),(10,aM i)],[(65,⟨g,2,true,false,some (L.map Pt.v)⟩)]⟩)
   (fun (i,L,_)=>i≤m.aY.length∧L=oL m.aY i∧L.length≤1000*i) (fun (i,_,_)=>m.aY.length - i) (0,[],g) (by(refine⟨?_,?_⟩ <;>repeat' (first| exact True.intro| refine ai ?_| refine And.intro ?_ ?_))) ⟨by simp,rfl,by simp⟩ ?_
 rintro⟨i,L,g⟩ ⟨hi,hL,hLl⟩
 try dsimp only at hi hL hLl
 by_cases bJ:i<m.aY.length
 · obtain⟨e,he⟩: ∃e,m.aY[i]? =some e:=⟨_,bu bJ⟩
   have oV:=hl e (List.mem_of_getElem? he)
   have kM:oL m.aY (i+1)=L++tD e (e.line.length - 2):=by simp only[oL,he,hL]
   (conv=>whnf);repeat' ((first| intro g| refine bd.mk _ (aJ he rfl) ?_| refine st ?_| (first| refine b1 ?_ ?_| refine b2 ?_ ?_| refine Br.mk ?_ ?_) <;>intro hc| exact rfl) <;>conv=>whnf)
   rename_i T9
   refine a9.by (fun ((j,K,T9):Nat×List Pt×Nat)=> ⟨[(3,.sl 65 T9 0 K.length),(5,.ptr 96 g 0 0),(6,aM (j+1)),(8,.lit 4 (m.aY.map Edge.v)),(9,aM (m.aY.map Edge.v).length),(10,aM i)],
     [(65,⟨T9,2,true,false,some (K.map Pt.v)⟩),(96,⟨g,4,false,false,some [e.v]⟩)]⟩) (fun (j,K,_)=>j≤e.line.length - 2∧K=L++tD e j) (fun (j,_,_)=>e.line.length - 2 - j) (0,L,T9) (by(refine⟨?_,?_⟩ <;>repeat' (first| exact True.intro| refine ai ?_| refine And.intro ?_ ?_))) ⟨by simp,by simp[tD]⟩ ?_
   rintro⟨j,K,T9⟩ ⟨hj,hK⟩
   try dsimp only at hj hK
   have hKl:K.length=L.length+j:=by rw[hK];simp[xF]
   have w1:IntKind.i64.wrap (((j+1:Nat):Int)+1)=((j+2:Nat):Int):=(wrap64 (by omega) (by omega)).trans (by omega)
   by_cases jd:j+2 <e.line.length
   · have aai:IntKind.i64.wrap (((j+1:Nat):Int)+1) < ((e.line.map Pt.v).length:Int):=by rw[w1,List.length_map];omega
     (conv=>whnf);repeat' ((first| intro g| refine st ?_| (first| refine b1 ?_ ?_| refine b2 ?_ ?_| refine Br.mk ?_ ?_) <;>intro hc| exact rfl) <;>conv=>whnf)
     refine br.mk (j+1,K++[⟨e.id,((j+1:Nat):Int)⟩],_) (by first| omega| (dsimp only;omega)) ⟨(by first| omega| (dsimp only;omega)),?_⟩ (by(refine⟨?_,?_⟩ <;>repeat' (first| exact True.intro| refine ai ?_| refine And.intro ?_ ?_)))
     show K++_=_
     rw[hK,B7,List.append_assoc]
   · have ef: ¬IntKind.i64.wrap (((j+1:Nat):Int)+1) < ((e.line.map Pt.v).length:Int):=by rw[w1,List.length_map];omega
     have hj2:j=e.line.length - 2:=by omega
     (conv=>whnf);repeat' ((first| contradiction| intro g| refine st ?_| (first| refine b1 ?_ ?_| refine b2 ?_ ?_| refine Br.mk ?_ ?_) <;>intro hc| exact rfl) <;>conv=>whnf)
     refine br.mk (i+1,K,_) (by first| omega| (dsimp only;omega)) ⟨(by first| omega| (dsimp only;omega)),?_,?_⟩ (by(refine⟨?_,?_⟩ <;>repeat' (first| exact True.intro| refine ai ?_| refine And.intro ?_ ?_)))
     · show K=_
       rw[hK,kM,hj2]
     · show K.length≤_
       omega
 obtain rfl:i=m.aY.length:=by omega
 (conv=>whnf);repeat' ((first| intro g| refine bd.mk _ (kD (by simp)) ?_| refine st ?_| (first| refine b1 ?_ ?_| refine b2 ?_ ?_| refine Br.mk ?_ ?_) <;>intro hc| exact rfl) <;>conv=>whnf)
 rw[hL]
end Go.AM
set_option maxRecDepth 20000
set_option maxHeartbeats 2000000
namespace Go.AM
def cJ.zero:cJ:=⟨[],[],[],[]⟩
def gB.es {m:cJ} (q:gB m):List Edge:=m.aY.set q.k ⟨q.e.id,q.rest,q.e.left,q.e.right⟩
theorem D6 {m:cJ} (q:gB m) {r:Int} (hr:r≠0) (xG:Ev E 526 [m.v,vi q.e.id,aM q.n] ⟨vi r,[]⟩):Ev E 524 [m.v,vi q.e.id,aM q.n] ⟨.tuple [cJ.zero.v,vi r],[]⟩:=by
 refine Ev.bY G8 (G9 _) rfl ?_
 (conv=>whnf);repeat' ((first| intro g| refine ak.mk _ (xG) ?_| refine st ?_| (first| refine b1 ?_ ?_| refine b2 ?_ ?_| refine Br.mk ?_ ?_) <;>intro hc| exact rfl) <;>conv=>whnf)
theorem D7 {m:cJ} (h:m.Fit) (q:gB m) (xG:Ev E 526 [m.v,vi q.e.id,aM q.n] ⟨vi 0,[]⟩):
   Ev E 524 [m.v,vi q.e.id,aM q.n] ⟨.tuple [.agg [.own 4 (q.es.map Edge.v),.own 5 (m.de.map df.v),.own 8 (m.ways.map Way.v),.own 7 (m.eH.map Place.v)],vi 0],[]⟩:=by
 have hle:=h.e
 have hlw:=h.w
 have pz:=EB h q
 have Xr:=AE q
 have Hp:=q.he
 have Xh:=(List.getElem?_eq_some_iff.1 Hp).1
 have c1:=BX m.aY h.e
 have c2:=BY m.de h.f
 have c3:=BZ m.ways h.w
 have c4:=B0 m.eH h.p
 refine Ev.bY G8 (G9 _) rfl ?_
 (conv=>whnf);repeat' ((first| intro g| refine ak.mk _ (xG) ?_| refine ak.mk _ (pz) ?_| refine ak.mk _ (c1) ?_| refine ak.mk _ (c2) ?_| refine ak.mk _ (c3) ?_| refine ak.mk _ (c4) ?_| refine st ?_| (first| refine b1 ?_ ?_| refine b2 ?_ ?_| refine Br.mk ?_ ?_) <;>intro hc| exact rfl) <;>conv=>whnf)
 rename_i GR lD qK B8 GV B9 GW
 have hE: ∀ {l:List Edge} {i:Nat} {x:Edge},l[i]? =some x→(l.map Edge.v).set (i:Int).toNat (.agg [vi x.id,.lit 2 (x.line.map Pt.v),vi x.left,vi x.right])=l.map Edge.v:=fun h=>wc h
 have hW: ∀ {l:List Way} {i:Nat} {x:Way},l[i]? =some x→(l.map Way.v).set (i:Int).toNat (.agg [vi x.id,.lit 2 (x.line.map Pt.v),vi x.level,.str x.cls,.str x.name,.bool x.yE,vi x.weight,vi x.yD])=l.map Way.v:=fun h=>wc h
 refine a9.by (fun (i:Nat)=> ⟨[(3,.ptr 64 GR 0 0),(6,.ptr 112 lD 0 0),(9,.ptr 160 qK 0 0),(11,.ptr 192 g 0 0),(44,aM (m.aY.map Edge.v).length),(45,aM i)],
    [(64,⟨GR,4,false,false,some [m.v]⟩),(112,⟨lD,4,false,false,some [.agg [.lit 4 [],.lit 5 [],.lit 8 [],.lit 7 []]]⟩),(160,⟨qK,8,false,false,some [q.v]⟩),(192,⟨g,4,false,false,some [.agg [.sl 512 B8 0 (m.aY.map Edge.v).length,.sl 560 GV 0 (m.de.map df.v).length,.sl 608 B9 0 (m.ways.map Way.v).length,.sl 656 GW 0 (m.eH.map Place.v).length]]⟩),
     (512,⟨B8,4,true,false,some (m.aY.map Edge.v)⟩),(560,⟨GV,5,true,false,some (m.de.map df.v)⟩),(608,⟨B9,8,true,false,some (m.ways.map Way.v)⟩),(656,⟨GW,7,true,false,some (m.eH.map Place.v)⟩)]⟩)
   (fun i=>i≤m.aY.length) (fun i=>m.aY.length - i) 0 (by(refine⟨?_,?_⟩ <;>repeat' (first| exact True.intro| refine ai ?_| refine And.intro ?_ ?_))) (by simp) ?_
 clear c1 c2 c3 c4 xG pz
 rintro i hi
 by_cases bJ:i<m.aY.length
 · obtain⟨e,he⟩: ∃e,m.aY[i]? =some e:=⟨_,bu bJ⟩
   have sV:=ng e.line (h.el e (List.mem_of_getElem? he))
   (conv=>whnf);repeat' ((first| intro g| refine bd.mk _ (aJ he rfl) ?_| refine ak.mk _ (sV) ?_| refine st ?_| (first| refine b1 ?_ ?_| refine b2 ?_ ?_| refine Br.mk ?_ ?_) <;>intro hc| exact rfl) <;>conv=>whnf)
   have e1: (⟨B8,4,true,false,some ((m.aY.map Edge.v).set (i:Int).toNat (.agg [vi e.id,.lit 2 (e.line.map Pt.v),vi e.left,vi e.right]))⟩:Obj)=⟨B8,4,true,false,some (m.aY.map Edge.v)⟩:=by rw[hE he]
   exact br.mk (i+1) (by first| omega| (dsimp only;omega)) (by omega) (by(refine⟨?_,?_⟩ <;>repeat' (first| exact True.intro| refine And.intro (e1) ?_| refine ai ?_| refine And.intro ?_ ?_)))
 obtain rfl:i=m.aY.length:=by omega
 (conv=>whnf);repeat' ((first| intro g| refine st ?_| (first| refine b1 ?_ ?_| refine b2 ?_ ?_| refine Br.mk ?_ ?_) <;>intro hc| exact rfl) <;>conv=>whnf)
 refine a9.by (fun (i:Nat)=> ⟨[(3,.ptr 64 GR 0 0),(6,.ptr 112 lD 0 0),(9,.ptr 160 qK 0 0),(11,.ptr 192 g 0 0),(63,aM (m.ways.map Way.v).length),(64,aM i)],
    [(64,⟨GR,4,false,false,some [m.v]⟩),(112,⟨lD,4,false,false,some [.agg [.lit 4 [],.lit 5 [],.lit 8 [],.lit 7 []]]⟩),(160,⟨qK,8,false,false,some [q.v]⟩),(192,⟨g,4,false,false,some [.agg [.sl 512 B8 0 (m.aY.map Edge.v).length,.sl 560 GV 0 (m.de.map df.v).length,.sl 608 B9 0 (m.ways.map Way.v).length,.sl 656 GW 0 (m.eH.map Place.v).length]]⟩),
     (512,⟨B8,4,true,false,some (m.aY.map Edge.v)⟩),(560,⟨GV,5,true,false,some (m.de.map df.v)⟩),(608,⟨B9,8,true,false,some (m.ways.map Way.v)⟩),(656,⟨GW,7,true,false,some (m.eH.map Place.v)⟩)]⟩)
   (fun i=>i≤m.ways.length) (fun i=>m.ways.length - i) 0 (by(refine⟨?_,?_⟩ <;>repeat' (first| exact True.intro| refine ai ?_| refine And.intro ?_ ?_))) (by simp) ?_
 rintro i hi
 by_cases bJ:i<m.ways.length
 · obtain⟨e,he⟩: ∃e,m.ways[i]? =some e:=⟨_,bu bJ⟩
   have sV:=ng e.line (h.wl e (List.mem_of_getElem? he))
   (conv=>whnf);repeat' ((first| intro g| refine bd.mk _ (aJ he rfl) ?_| refine ak.mk _ (sV) ?_| refine st ?_| (first| refine b1 ?_ ?_| refine b2 ?_ ?_| refine Br.mk ?_ ?_) <;>intro hc| exact rfl) <;>conv=>whnf)
   have e1: (⟨B9,8,true,false,some ((m.ways.map Way.v).set (i:Int).toNat (.agg [vi e.id,.lit 2 (e.line.map Pt.v),vi e.level,.str e.cls,.str e.name,.bool e.yE,vi e.weight,vi e.yD]))⟩:Obj)=⟨B9,8,true,false,some (m.ways.map Way.v)⟩:=by rw[hW he]
   exact br.mk (i+1) (by first| omega| (dsimp only;omega)) (by omega) (by(refine⟨?_,?_⟩ <;>repeat' (first| exact True.intro| refine And.intro (e1) ?_| refine ai ?_| refine And.intro ?_ ?_)))
 obtain rfl:i=m.ways.length:=by omega
 have Rd:q.es.map Edge.v=(m.aY.map Edge.v).set (q.k:Int).toNat (.agg [vi q.e.id,.lit 2 (q.rest.map Pt.v),vi q.e.left,vi q.e.right]):=by
   simp[gB.es,List.map_set,Edge.v,kj]
 rw[Rd]
 (conv=>whnf);repeat' ((first| intro g| refine bd.mk _ (aJ Hp rfl) ?_| refine bd.mk _ (kD rfl) ?_| refine bd.mk _ (kD (by simp)) ?_| refine ak.mk _ (Xr) ?_| refine st ?_| (first| refine b1 ?_ ?_| refine b2 ?_ ?_| refine Br.mk ?_ ?_) <;>intro hc| exact rfl) <;>conv=>whnf)
end Go.AM
set_option maxRecDepth 20000
namespace Go.AM
theorem lW (x:Int):fj x=if x % 18446744073709551616 < 9223372036854775808 then x % 18446744073709551616 else x % 18446744073709551616 - 18446744073709551616:=by
 unfold fj IntKind.wrap
 simp only[IntKind.bits,IntKind.signed]
 simp
 omega
theorem AF (a b:Int):fj (fj a+b)=fj (a+b):=by
 simp only[lW];omega
theorem yb (a b:Int):fj (a+fj b)=fj (a+b):=by
 simp only[lW];omega
theorem vO (a b:Int):fj (fj a - b)=fj (a - b):=by
 simp only[lW];omega
theorem oR (a b:Int):fj (a - fj b)=fj (a - b):=by
 simp only[lW];omega
theorem Ua (a:Int):fj (fj a)=fj a:=by
 simp only[lW];omega
def j4 (a b:Pt):Int:=a.x*b.y - a.y*b.x
theorem yc (a b:Pt):pN a b=fj (j4 a b):=by
 unfold pN j4
 rw[vO,oR]
def ft:List Pt→Int
 | p::q::r=>j4 p q+ft (q::r)
 | _=>0
theorem sQ: ∀ (l:List Pt) (p q:Pt),ft (l++[p,q])=ft (l++[p])+j4 p q
 | [],p,q=>by simp[ft]
 | [a],p,q=>by simp[ft] <;>omega
 | a::b::r,p,q=>by
   have ih:=sQ (b::r) p q
   simp only[List.cons_append,ft] at ih ⊢
   omega
theorem AG (l:List Pt): ∀k,k<l.length→kc l k=fj (ft (l.take (k+1)))
 | 0,h=>by
   cases l with
   | nil=>simp at h
   | cons a l=>simp[kc,ft,lW]
 | k+1,h=>by
   have ih:=AG l k (by omega)
   have hp:l[k]? =some l[k]:=bu (by omega)
   have hq:l[k+1]? =some l[k+1]:=bu h
   have e:l.take (k+1+1)=l.take k++[l[k],l[k+1]]:=by
    rw[List.take_add_one (i:=k+1),hq,List.take_add_one (i:=k),hp];simp only[Option.toList_some,List.append_assoc,List.cons_append,List.nil_append]
   have e2:l.take (k+1)=l.take k++[l[k]]:=by
    rw[List.take_add_one,hp];simp only[Option.toList_some]
   simp only[kc,hp,hq]
   rw[ih,yc,AF,yb,e,e2,sQ]
theorem GX (l:List Pt):uJ l=fj (ft l):=by
 unfold uJ
 cases l with
 | nil=>rfl
 | cons a l=>
   rw[AG _ _ (by simp)]
   rw[List.take_of_length_le (by simp)]
def uK (e:Edge) (f:Int):Int:=(if e.left=f then ft e.line else 0) - (if e.right=f then ft e.line else 0)
def ni (es:List Edge) (f:Int):Int:=(es.map fun e=>uK e f).sum
theorem zL (e:Edge) (f s:Int):lF e f (fj s)=fj (s+uK e f):=by
 unfold lF uK
 simp only[GX]
 split<;>split<;> (try simp only[AF,yb,vO,oR,Ua]) <;>congr 1 <;>omega
theorem yd (es:List Edge) (f:Int): ∀k,k≤es.length→iE es f k=fj (ni (es.take k) f)
 | 0,_=>by simp[iE,ni];rfl
 | k+1,h=>by
   have ih:=yd es f k (by omega)
   have he:es[k]? =some es[k]:=bu h
   simp only[iE,he]
   rw[ih,zL]
   congr 1
   unfold ni
   rw[List.take_add_one,he]
   simp only[Option.toList_some,List.map_append,List.sum_append,List.map_cons,List.map_nil,List.sum_cons,List.sum_nil,Int.add_zero]
theorem AH (es:List Edge) (f:Int):oQ es f=fj (ni es f):=by
 unfold oQ
 rw[yd es f _ (Nat.le_refl _),List.take_length]
theorem zM {es:List Edge} {k:Nat} {e:Edge} (he:es[k]? =some e) (e':Edge) (f:Int):ni (es.set k e') f=ni es f+(uK e' f - uK e f):=by
 obtain⟨A,B,rfl,hA⟩: ∃A B,es=A++e::B∧A.length=k:=by
  have hk:=(List.getElem?_eq_some_iff.1 he).1
  refine⟨es.take k,es.drop (k+1),?_,by simp;omega⟩
  have:es.drop k=e::es.drop (k+1):=by
   rw[List.drop_eq_getElem_cons hk]
   congr 1
   exact(List.getElem?_eq_some_iff.1 he).2
  rw[←this,List.take_append_drop]
 subst hA
 simp[ni,List.set_append]
 omega
theorem uL: ∀ (A:List Pt) (a b c:Pt) (B:List Pt),ft (A++a::c::B)=ft (A++a::b::c::B)+(j4 a c - j4 a b - j4 b c)
 | [],a,b,c,B=>by simp only[List.nil_append,ft];omega
 | [x],a,b,c,B=>by simp only[List.cons_append,List.nil_append,ft];omega
 | x::y::r,a,b,c,B=>by
   have ih:=uL (y::r) a b c B
   simp only[List.cons_append,ft] at ih ⊢
   omega
def gB.T {m:cJ} (q:gB m):Int:=(q.b.x - q.a.x)*(q.c.y - q.a.y) - (q.b.y - q.a.y)*(q.c.x - q.a.x)
theorem Ca {m:cJ} (q:gB m):ft q.rest=ft q.e.line - q.T:=by
 have hn:=q.hn
 have hc:=(List.getElem?_eq_some_iff.1 q.hc).1
 obtain⟨n,Yz⟩: ∃n,q.n=n+1:=⟨q.n - 1,by omega⟩
 have h1:=q.ha
 have h2:=q.hb
 have h3:=q.hc
 unfold gB.rest gB.T
 rw[Yz] at h1 h2 h3 hc ⊢
 generalize q.e.line=l at*
 generalize q.a=a at*
 generalize q.b=b at*
 generalize q.c=c at*
 simp only[Nat.add_sub_cancel] at h1
 have e:l=l.take n++a::b::c::l.drop (n+3):=by
  have d1:l.drop n=a::l.drop (n+1):=by
   rw[List.drop_eq_getElem_cons (by omega)];congr 1;exact(List.getElem?_eq_some_iff.1 h1).2
  have d2:l.drop (n+1)=b::l.drop (n+2):=by
   rw[List.drop_eq_getElem_cons (by omega)];congr 1;exact(List.getElem?_eq_some_iff.1 h2).2
  have d3:l.drop (n+2)=c::l.drop (n+3):=by
   rw[List.drop_eq_getElem_cons (by omega)];congr 1;exact(List.getElem?_eq_some_iff.1 h3).2
  rw[←d3,←d2,←d1,List.take_append_drop]
 have hl: (l.take n).length=n:=by simp;omega
 generalize l.take n=A at*
 generalize l.drop (n+3)=B at*
 subst e
 have e2: (A++a::b::c::B).eraseIdx (n+1)=A++a::c::B:=by
  rw[←hl,List.eraseIdx_append_of_length_le (by omega)]
  simp
 rw[e2,uL A a b c B]
 unfold j4
 have: ∀ax ay bx UK cx cy:Int,ax*cy - ay*cx - (ax*UK - ay*bx) - (bx*cy - UK*cx)= - ((bx - ax)*(cy - ay) - (UK - ay)*(cx - ax)):=by
  intro ax ay bx UK cx cy
  simp only[Int.sub_mul,Int.mul_sub,Int.mul_comm]
  omega
 have:=this a.x a.y b.x b.y c.x c.y
 omega
theorem uM: ∀n:Nat,∃s:Int,IsSqrt (n:Int) s
 | 0=> ⟨0,by unfold IsSqrt;omega⟩
 | n+1=>by
   obtain⟨s,h0,h1,h2⟩:=uM n
   have e1: (s+1)*(s+1)=s*s+(2*s+1):=by simp only[Int.add_mul,Int.mul_add];omega
   have e2: (s+1+1)*(s+1+1)=s*s+(4*s+4):=by simp only[Int.add_mul,Int.mul_add];omega
   by_cases h: ((n+1:Nat):Int) < (s+1)*(s+1)
   · exact⟨s,h0,by omega,h⟩
   · exact⟨s+1,by omega,by omega,by omega⟩
theorem zN {n:Int} (h:0≤n):IsSqrt n (oN n):=by
 obtain⟨s,hs⟩:=uM n.toNat
 rw[Int.toNat_of_nonneg h] at hs
 rw[oO hs];exact hs
def zE (p:Pt):Prop:=(-20000≤p.x∧p.x≤20000)∧ -20000≤p.y∧p.y≤20000
theorem EF {a b M N:Int} (hM:0≤M) (hN:0≤N) (ha: -M≤a∧a≤M) (hb: -N≤b∧b≤N): -(M*N)≤a*b∧a*b≤M*N:=by
 have h1: (a*b).natAbs≤(M*N).natAbs:=by
  rw[Int.natAbs_mul,Int.natAbs_mul]
  exact Nat.mul_le_mul (by omega) (by omega)
 have h2:0≤M*N:=Int.mul_nonneg hM hN
 omega
theorem Ub {m:cJ} (q:gB m) (ha:zE q.a) (hb:zE q.b) (hc:zE q.c): -3200000000≤q.T∧q.T≤3200000000:=by
 unfold zE at ha hb hc
 unfold gB.T
 have h1:=EF (a:=q.b.x - q.a.x) (b:=q.c.y - q.a.y) (M:=40000) (N:=40000) (by omega) (by omega) (by omega) (by omega)
 have h2:=EF (a:=q.b.y - q.a.y) (b:=q.c.x - q.a.x) (M:=40000) (N:=40000) (by omega) (by omega) (by omega) (by omega)
 omega
theorem Mp {m:cJ} (q:gB m) (ha:zE q.a) (hb:zE q.b) (hc:zE q.c):q.GS=q.T:=by
 have hT:=Ub q ha hb hc
 unfold zE at ha hb hc
 unfold gB.GS
 rw[yc]
 unfold j4 ED
 dsimp only
 rw[fA (n:=q.b.x - q.a.x) (by omega) (by omega),fA (n:=q.b.y - q.a.y) (by omega) (by omega),fA (n:=q.c.x - q.a.x) (by omega) (by omega),fA (n:=q.c.y - q.a.y) (by omega) (by omega)]
 exact fA (by unfold gB.T at hT;omega) (by unfold gB.T at hT;omega)
theorem sR {m:cJ} (q:gB m) (f:Int):fj (oQ q.es f - oQ m.aY f)=fj ((if q.e.left=f then - q.T else 0) - (if q.e.right=f then - q.T else 0)):=by
 rw[AH,AH,vO,oR]
 unfold gB.es
 rw[zM q.he]
 congr 1
 unfold uK
 dsimp only
 rw[Ca]
 split<;>split<;>omega
def gB.change {m:cJ} (q:gB m):Int:=fj (oQ q.es q.e.left - oQ m.aY q.e.left)
def gB.want {m:cJ} (q:gB m) (f:Int):Int:=if f=q.e.left then q.change else if f=q.e.right then fj (0 - q.change) else 0
theorem BQ {m:cJ} (q:gB m) (yH:q.e.left≠q.e.right) (f:Int):fj (oQ q.es f - oQ m.aY f)=q.want f:=by
 unfold gB.want gB.change
 by_cases h1:f=q.e.left
 · rw[if_pos h1,h1]
 rw[if_neg h1]
 have e1:=sR q f
 have e2:=sR q q.e.left
 rw[if_neg (fun h=>h1 h.symm)] at e1
 rw[if_pos rfl,if_neg (fun h=>yH h.symm)] at e2
 by_cases h2:f=q.e.right
 · rw[if_pos h2,e2,oR,e1,if_pos h2.symm];congr 1;omega
 · rw[if_neg h2,e1,if_neg (fun h=>h2 h.symm)];rfl
theorem D9 {m:cJ} (q:gB m) (yH:q.e.left≠q.e.right) (ha:zE q.a) (hb:zE q.b) (hc:zE q.c):
  fj (q.cost*q.cost)≤ma q.change∧ma q.change<fj (fj (q.cost+1)*fj (q.cost+1)):=by
 have hT:=Ub q ha hb hc
 have e2:=sR q q.e.left
 rw[if_pos rfl,if_neg (fun h=>yH h.symm),fA (n:=_ - 0) (by omega) (by omega)] at e2
 have Rg:q.change= - q.T:=by unfold gB.change;omega
 have hab:ma q.change=ma q.T:=by
  rw[Rg]
  unfold ma
  rw[fA (n:=0 - -q.T) (by omega) (by omega),fA (n:=0 - q.T) (by omega) (by omega)]
  split<;>split<;>omega
 have Xt:0≤ma q.T∧ma q.T≤3200000000:=by
  unfold ma
  rw[fA (n:=0 - q.T) (by omega) (by omega)]
  split<;>omega
 obtain⟨s0,s1,s2⟩:=zN Xt.1
 have D8:q.cost=oN (ma q.T):=by unfold gB.cost;rw[Mp q ha hb hc]
 rw[hab,D8]
 generalize oN (ma q.T)=s at*
 generalize ma q.T=t at*
 have hs:s≤60000:=by
  rcases Int.lt_or_le 60000 s with h| h
  · have:=j3 (a:=60000) (b:=s) (by omega) (by omega);omega
  · exact h
 have h0:0≤s*s:=Int.mul_nonneg s0 s0
 have h2:=j3 (a:=s+1) (b:=60001) (by omega) (by omega)
 rw[fA (n:=s*s) (by omega) (by omega),fA (n:=s+1) (by omega) (by omega),fA (n:=(s+1)*(s+1)) (by omega) (by omega)]
 exact⟨s1,s2⟩
theorem vL {es:List Edge}: ∀ {k:Nat} {p:Pt},p ∈ oL es k→ ∃ (i j:Nat) (e:Edge),es[i]? =some e∧j+2 <e.line.length∧p=⟨e.id,((j+1:Nat):Int)⟩
 | 0,p,h=>by simp[oL] at h
 | k+1,p,h=>by
   simp only[oL] at h
   split at h
   · rename_i e he
     rcases List.mem_append.1 h with h| h
     · exact vL h
     · simp only[tD,List.mem_map,List.mem_range] at h
       obtain⟨j,hj,rfl⟩:=h
       exact⟨k,j,e,he,by omega,rfl⟩
   · exact vL h
theorem D5 {es:List Edge} (G7: ∀ (i:Nat) (e:Edge),es[i]? =some e→e.id=(i:Int)+1) {i:Nat} {e:Edge} (he:es[i]? =some e):AD es e.id=(i:Int):=by
 unfold AD
 rcases kF (fun x:Edge=>decide (x.id=e.id)) es with⟨h1,h2⟩ | ⟨k,x,h1,h2,h3⟩
 · have:=h2 i e he
   simp at this
 · have e1:=G7 k x h2
   have e2:=G7 i e he
   simp only[decide_eq_true_eq] at h3
   omega
end Go.AM
