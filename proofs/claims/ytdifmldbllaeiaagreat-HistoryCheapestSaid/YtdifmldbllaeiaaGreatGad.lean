/- Texts of the proof. -/
import Derived.Test.YtdifmldbllaeiaaGreatGac
import Derived.KernelRfl
set_option maxRecDepth 20000
set_option maxHeartbeats 4000000
set_option linter.unusedSimpArgs false
set_option linter.unusedVariables false
namespace Go.AM
theorem RU {l:List Way} {g:Nat} {caps:List V} (hc:V.ak caps=true) {p:Way→Bool} (hlen:l.length< 4611686018427387904)
  (hp: ∀x:Way,Ev E g (Way.v x::caps) ⟨.bool (p x),[]⟩) (hm:bC E g=[]):Ev E 180 [.lit 8 (l.map Way.v),.fn g caps] ⟨vi (firstIdx p l),[]⟩:=by
 exact qD (a:=true) (fun _=>rfl) (fun _=>rfl) hc hlen hp hm
theorem KQ (w:Way) (id:Int):Ev E 693 [w.v,.eptr (vi id) 0] ⟨.bool (decide (w.id=id)),[]⟩:=by
 refine Ev.aI rfl rfl rfl ?_
 exact dr
def oh (ws:List Way) (id:Int):Int:=firstIdx (fun w=>decide (w.id=id)) ws
theorem pC {m:aG} (h:m.ways.length< 1000000) (id:Int):Ev E 683 [m.v,vi id] ⟨vi (oh m.ways id),[]⟩:=by
 have hi:=RU (l:=m.ways) (caps:=[.eptr (vi id) 0]) rfl ae0 (fun x=>KQ x id) rfl
 refine Ev.aI rfl rfl rfl ?_
 conv=>whnf
 repeat' (first| intro g| apply ca hi| refine st ?_| refine br ?_ ?_<;>intro hc| rfl) <;>conv=>whnf
 all_goals rfl
def ZY:V:= .agg [vi 0,.nils,vi 0,.str [],.str [],.bool false,vi 0,vi 0]
theorem HD {l:List Way} {i:Nat} (hi:i<l.length) (h:l.length< 1000000):Ev E 699 [.msl 8 (l.map Way.v) 0 l.length,ar i,vi (IntKind.i64.wrap ((i:Int)+1))] ⟨.sl 0 0 0 (l.length - 1),[(0,(l.eraseIdx i).map Way.v++[ZY])]⟩:=by
 have hw:IntKind.i64.wrap ((i:Int)+1)=((i+1:Nat):Int):=wt
 rw[hw]
 refine Ev.aI rfl rfl rfl ?_
 have CK:aF (l.map Way.v) (0+((i+1:Nat):Int).toNat) (l.length - ((i+1:Nat):Int).toNat)=(l.drop (i+1)).map Way.v:=by
  rw[fX]
  congr 1
  rw[List.take_of_length_le afU]
  simp
 conv=>whnf
 repeat' (first| intro g| refine nd (by first| ((and_intros<;>first| rfl| exact bq (bq (Way.aV _) (Way.aV _)) (bR rfl) | exact fZ (bq (bq (Way.aV _) (Way.aV _)) (bR rfl)) | (simp only[overwrite,aF,List.length_map,List.length_append,agb,agi,agz,agG];omega) | omega)) | fail) ?_| refine wi CK ?_| refine st ?_| refine br ?_ ?_<;>intro hc| rfl) <;>conv=>whnf
 obtain⟨A,x,B,rfl,hA⟩: ∃A x B,l=A++x::B∧A.length=i:=⟨l.take i,l[i],l.drop (i+1),afU,by simp;omega⟩
 have e1: (A++x::B).drop (i+1)=B:=by
  rw[←hA];simp[ahB]
 have e2: (A++x::B).eraseIdx i=A++B:=by
  rw[←hA];simp[ahl]
 have e3: ((i:Int).toNat - 0+((B).map Way.v).length)=A.length+B.length:=by simp;omega
 rw[e1,e2,e3]
 have e4: ((A.length+B.length:Nat):Int).toNat=A.length+B.length:=ae0
 have e5: (((A++x::B).length:Nat):Int).toNat - (A.length+B.length)=1:=by simp;omega
 have e6: (A++x::B).length - 1=A.length+B.length:=afU
 rw[e4,e5,e6]
 subst hA
 show (⟨V.sl 0 0 0 _,[(0,_)]⟩:eL)=_
 congr 3
 simp[overwrite,List.take_append,ahB]
 rw[List.take_of_length_le afU,agn (by simp;omega),agn (by simp;omega),agn (by simp;omega),agn (by simp;omega)]
 rfl
theorem wA {l:List Way} {i:Nat} (hi:i<l.length) (h:l.length< 1000000):Ev E 690 [.lit 8 (l.map Way.v),ar i] ⟨.own 8 ((l.eraseIdx i).map Way.v),[]⟩:=by
 have h1:=qF l ae0
 have h2:=HD hi h
 have hlen:l.length - 1=(l.eraseIdx i).length:=by rw[agV];simp[hi]
 have KR:Ev E 699 [.msl 8 (l.map Way.v) 0 (l.map Way.v).length,ar i,vi (IntKind.i64.wrap ((i:Int)+1))] ⟨.sl 0 0 0 (l.length - 1),[(0,(l.eraseIdx i).map Way.v++[ZY])]⟩:=by
  rw[List.length_map];exact h2
 refine Ev.aI rfl rfl rfl ?_
 conv=>whnf
 repeat' (first| intro g| refine wi (qB hlen) ?_| apply ca h1| apply ca KR| refine st ?_| refine br ?_ ?_<;>intro hc| rfl) <;>conv=>whnf
end Go.AM
namespace Go.AM
theorem jY {E:Env} {r:Nat} {g:Nat} {args:List V} {v v':V} {S:SS} {Q:KK} (hm:bC E g=[]) (hp:V.ak args=true) (he:Ev E g args ⟨v,[]⟩) (hv: ∀ (r:Nat) (k:V→bD),fg false r [] v k=k v') (k:Q v' S [] []):fb E (kx E r false g args) S Q:=by
 have key: ∀ (eV:List V) (i:Nat) (kk:List V→List Nat→List eh→bD),V.ak eV=true→dA (r+8) eV [] i kk=kk eV [] []:=by
  intro eV
  induction eV with
  | nil=>intro i kk _;rfl
  | cons a eV ih=>
    intro i kk h
    simp only[V.ak,af2] at h
    simp only[dA,fL,h.1,cond_true,agH]
    rw[ih (i+1) _ h.2]
 unfold kx
 rw[hm,key args 0 _ hp]
 refine⟨rfl,⟨⟨v,[]⟩,he,?_⟩⟩
 simp only[iQ,hv]
 exact k
def IsL (sz:Nat) (xs:List V) (v:V):Prop:=v= .own sz xs∨v= .lit sz xs
def Jy (v v':V):Prop:= ∀ (r:Nat) (k:V→bD),fg false r [] v k=k v'
theorem Vo {m:aG} {c:Int} {e f w p:V} (h1:IsL 4 (m.az.map Edge.v) e) (h2:IsL 5 (m.al.map aX.v) f) (h3:IsL 8 (m.ways.map Way.v) w) (h4:IsL 7 (m.aA.map Place.v) p):Jy (.tuple [.agg [e,f,w,p],vi c]) (.tuple [m.v,vi c]):=by
 rcases h1 with rfl| rfl<;>rcases h2 with rfl| rfl<;>rcases h3 with rfl| rfl<;>rcases h4 with rfl| rfl
 all_goals exact fun _ _=>rfl
end Go.AM
namespace Go.AM
theorem Vp (i:Int) (w:Way):Ev E 703 [vi i,w.v] ⟨({w with id:=i}:Way).v,[]⟩:=by
 refine Ev.aI rfl rfl rfl ?_
 exact dr
theorem Vq (i:Int) (w:Way) (h:w.line.length< 1000000): ∃v,Ev E 691 [vi i,w.v] ⟨v,[]⟩∧Jy v w.v:=by
 have hc:=eE w.line h
 suffices hh: ∃res,Ev E 691 [vi i,w.v] res∧ ∃v,Jy v w.v∧res=⟨v,[]⟩ by
  obtain⟨_,h1,v,h2,rfl⟩:=hh
  exact⟨v,h1,h2⟩
 refine Ev.bH rfl rfl rfl ?_
 conv=>whnf
 repeat' (first| intro g| apply ca hc| refine st ?_| refine br ?_ ?_<;>intro hc| rfl) <;>conv=>whnf
 exact⟨_,fun _ _=>rfl,rfl⟩
theorem Vr (i:Int) (e:Edge) (h:e.line.length< 1000000): ∃v,Ev E 688 [vi i,e.v] ⟨v,[]⟩∧Jy v e.v:=by
 have hc:=eE e.line h
 suffices hh: ∃res,Ev E 688 [vi i,e.v] res∧ ∃v,Jy v e.v∧res=⟨v,[]⟩ by
  obtain⟨_,h1,v,h2,rfl⟩:=hh
  exact⟨v,h1,h2⟩
 refine Ev.bH rfl rfl rfl ?_
 conv=>whnf
 repeat' (first| intro g| apply ca hc| refine st ?_| refine br ?_ ?_<;>intro hc| rfl) <;>conv=>whnf
 exact⟨_,fun _ _=>rfl,rfl⟩
theorem EL {f:Nat} (hm:bC E f=[]) {P:Way→Prop} {ws:List Way} (hn:ws.length< 1000000) (hF: ∀ (i:Int) w,w ∈ ws→ ∃v w',Ev E f [vi i,w.v] ⟨v,[]⟩∧Jy v (Way.v w')∧P w'):
  ∃L:List Way,L.length=ws.length∧(∀w ∈ L,P w)∧Ev E 689 [.lit 8 (ws.map Way.v),.fn f []] ⟨.own 8 (L.map Way.v),[]⟩:=by
 suffices hh: ∃res,Ev E 689 [.lit 8 (ws.map Way.v),.fn f []] res∧ ∃L:List Way,L.length=ws.length∧(∀w ∈ L,P w)∧res=⟨.own 8 (L.map Way.v),[]⟩ by
  obtain⟨_,h1,L,h2,h3,rfl⟩:=hh
  exact⟨L,h2,h3,h1⟩
 have hp: ∀ (i:Int) (w:Way),V.ak [vi i,w.v]=true:=fun _ _=>rfl
 refine Ev.bH rfl rfl rfl ?_
 conv=>whnf
 repeat' (first| intro g| refine st ?_| refine br ?_ ?_<;>intro hc| rfl) <;>conv=>whnf
 refine aO.by (fun ((i,L,g):Nat×List Way×Nat)=> ⟨[(1,.fn f []),(5,.sl 97 g 0 L.length),(8,.lit 8 (ws.map Way.v)),(9,ar ws.length),(10,ar i)],[(97,⟨g,8,true,false,some (L.map Way.v)⟩)]⟩)
  (fun (i,L,_)=>i≤ws.length∧L.length=i∧ ∀w ∈ L,P w) (fun (i,_)=>ws.length - i) (0,[],g) su ⟨afU,rfl,afU⟩ ?_
 clear g
 rintro⟨i,L,gl⟩ ⟨hi,hL,hP⟩
 try dsimp only at hi hL hP
 by_cases bk:i<ws.length
 ·obtain⟨w,hx⟩: ∃x,ws[i]? =some x:=⟨_,aL bk⟩
  obtain⟨v,w',h1,h2,h3⟩:=hF i w (List.mem_of_getElem? hx)
  have Hi:=hp i w
  conv=>whnf
  repeat' (first| refine jY hm Hi h1 h2 ?_| intro g| refine wi (av hx rfl) ?_| refine st ?_| refine br ?_ ?_<;>intro hc| rfl) <;>conv=>whnf
  refine aK.mk (i+1,L++[w'],g) om ⟨ae0,by simp[hL],fun y hy=> ?_⟩ su
  rcases agd.1 hy with hy| hy
  ·exact hP y hy
  ·rw[agW.1 hy];exact h3
 ·conv=>whnf
  repeat' (first| intro g| refine st ?_| refine br ?_ ?_<;>intro hc| rfl) <;>conv=>whnf
  exact⟨L,ae0,hP,rfl⟩
theorem NZ {f:Nat} (hm:bC E f=[]) {P:Edge→Prop} {ws:List Edge} (hn:ws.length< 1000000) (hF: ∀ (i:Int) w,w ∈ ws→ ∃v w',Ev E f [vi i,w.v] ⟨v,[]⟩∧Jy v (Edge.v w')∧P w'):
  ∃L:List Edge,L.length=ws.length∧(∀w ∈ L,P w)∧Ev E 687 [.lit 4 (ws.map Edge.v),.fn f []] ⟨.own 4 (L.map Edge.v),[]⟩:=by
 suffices hh: ∃res,Ev E 687 [.lit 4 (ws.map Edge.v),.fn f []] res∧ ∃L:List Edge,L.length=ws.length∧(∀w ∈ L,P w)∧res=⟨.own 4 (L.map Edge.v),[]⟩ by
  obtain⟨_,h1,L,h2,h3,rfl⟩:=hh
  exact⟨L,h2,h3,h1⟩
 have hp: ∀ (i:Int) (w:Edge),V.ak [vi i,w.v]=true:=fun _ _=>rfl
 refine Ev.bH rfl rfl rfl ?_
 conv=>whnf
 repeat' (first| intro g| refine st ?_| refine br ?_ ?_<;>intro hc| rfl) <;>conv=>whnf
 refine aO.by (fun ((i,L,g):Nat×List Edge×Nat)=> ⟨[(1,.fn f []),(5,.sl 97 g 0 L.length),(8,.lit 4 (ws.map Edge.v)),(9,ar ws.length),(10,ar i)],[(97,⟨g,4,true,false,some (L.map Edge.v)⟩)]⟩)
  (fun (i,L,_)=>i≤ws.length∧L.length=i∧ ∀w ∈ L,P w) (fun (i,_)=>ws.length - i) (0,[],g) su ⟨afU,rfl,afU⟩ ?_
 clear g
 rintro⟨i,L,gl⟩ ⟨hi,hL,hP⟩
 try dsimp only at hi hL hP
 by_cases bk:i<ws.length
 ·obtain⟨w,hx⟩: ∃x,ws[i]? =some x:=⟨_,aL bk⟩
  obtain⟨v,w',h1,h2,h3⟩:=hF i w (List.mem_of_getElem? hx)
  have Hi:=hp i w
  conv=>whnf
  repeat' (first| refine jY hm Hi h1 h2 ?_| intro g| refine wi (av hx rfl) ?_| refine st ?_| refine br ?_ ?_<;>intro hc| rfl) <;>conv=>whnf
  refine aK.mk (i+1,L++[w'],g) om ⟨ae0,by simp[hL],fun y hy=> ?_⟩ su
  rcases agd.1 hy with hy| hy
  ·exact hP y hy
  ·rw[agW.1 hy];exact h3
 ·conv=>whnf
  repeat' (first| intro g| refine st ?_| refine br ?_ ?_<;>intro hc| rfl) <;>conv=>whnf
  exact⟨L,ae0,hP,rfl⟩
end Go.AM
namespace Go.AM
def MI (es:List V):Prop:= ∀e ∈ es,∃k j:Int,e= .tuple [vi k,vi j]
theorem tT (a b:Int):vZ (vi a) (vi b)=some (a==b):=by simp[vZ]
theorem CQ (k j:Int): ∀ {es:List V},MI es→ ∃es',iT (vi k) (vi j) es=some es'∧MI es'
 | [],_=> ⟨_,rfl,fun e he=> ⟨k,j,by simpa using he⟩⟩
 | e::es,h=>by
   obtain⟨k',j',rfl⟩:=h e afU
   cases hk: (k==k') with
   | true=>
     refine⟨_,by simp only[iT,tT,hk];rfl,fun e' kE=> ?_⟩
     rcases af7.1 kE with rfl| kE
     ·exact⟨k,j,rfl⟩
     ·exact h e' (by simp[kE])
   | false=>
     obtain⟨es',h1,h2⟩:=CQ k j (es:=es) (fun x hx=>h x (by simp[hx]))
     refine⟨_,by simp only[iT,tT,hk,h1];rfl,fun e' kE=> ?_⟩
     rcases af7.1 kE with rfl| kE
     ·exact⟨k',j',rfl⟩
     ·exact h2 e' kE
theorem CR (k:Int): ∀ {es:List V},MI es→cj (vi k) es=some none∨ ∃j:Int,cj (vi k) es=some (some (vi j))
 | [],_=> .inl rfl
 | e::es,h=>by
   obtain⟨k',j',rfl⟩:=h e afU
   cases hk: (k==k') with
   | true=>exact .inr ⟨j',by simp only[cj,tT,hk]⟩
   | false=>
     have:=CR k (es:=es) (fun x hx=>h x (by simp[hx]))
     simpa only[cj,tT,hk] using this
theorem HE (k:Int) {es:List V} (h:MI es): ∃j:Int,cQ false (.int .i64 0) es (vi k)= .done (vi j):=by
 rcases CR k h with e| ⟨j,e⟩
 ·exact⟨0,by simp only[cQ,e];rfl⟩
 ·exact⟨j,by simp only[cQ,e];rfl⟩
theorem RV (k:Int) {es:List V} (h:MI es): ∃ (j:Int) (b:Bool),cQ true (.int .i64 0) es (vi k)= .done (.tuple [vi j,.bool b]):=by
 rcases CR k h with e| ⟨j,e⟩
 ·exact⟨0,false,by simp only[cQ,e];rfl⟩
 ·exact⟨j,true,by simp only[cQ,e];rfl⟩
theorem xM: ∀ {es:List V},MI es→V.ak es=true
 | [],_=>rfl
 | e::es,h=>by
   obtain⟨k,j,rfl⟩:=h e afU
   have:=xM (es:=es) (fun x hx=>h x (by simp[hx]))
   simp only[V.ak,this,agB];rfl
theorem N3: ∀ {es:List V},MI es→es.all V.isTuple=true
 | [],_=>rfl
 | e::es,h=>by
   obtain⟨k,j,rfl⟩:=h e afU
   have:=N3 (es:=es) (fun x hx=>h x (by simp[hx]))
   simp only[agj,this,agB];rfl
def yQ (w:Way):Prop:=0 <w.line.length∧w.line.length< 1000
theorem yR {ws:List Way} (hn:ws.length≤12) (hl: ∀w ∈ ws,yQ w): ∃es,MI es∧Ev E 698 [.lit 8 (ws.map Way.v)] ⟨.mlit es,[]⟩:=by
 suffices hh: ∃res,Ev E 698 [.lit 8 (ws.map Way.v)] res∧ ∃es,MI es∧res=⟨.mlit es,[]⟩ by
  obtain⟨_,h1,es,h2,rfl⟩:=hh
  exact⟨es,h2,h1⟩
 obtain⟨L,hL,hLo,h1⟩:=EL (f:=703) rfl (P:=yQ) (ws:=ws) ae0 (fun i w hw=> ⟨_,_,Vp i w,fun _ _=>rfl,hl w hw⟩)
 obtain⟨_,h2,gs,MG,HF,rfl⟩:=KO (ws:=L) ae0 hLo
 have hgp: ∀ (i:Nat) (g:List Int),gs[i]? =some g→g.length≤12:=fun i g h=>HF g (List.mem_of_getElem? h)
 refine Ev.bH rfl rfl rfl ?_
 conv=>whnf
 repeat' (first| intro g| apply ca h1| apply ca h2| refine st ?_| refine br ?_ ?_<;>intro hc| rfl) <;>conv=>whnf
 obtain⟨gm,Jz⟩: ∃x,x=g:=⟨_,rfl⟩
 rw[←Jz];clear Jz g
 refine aO.by (fun ((i,es):Nat×List V)=> ⟨[(3,.mp 160 gm),(13,.lit 1 (gs.map fun g=>V.lit 1 (g.map vi))),(14,ar gs.length),(15,ar i)],[(160,⟨gm,0,false,false,some es⟩)]⟩)
  (fun (i,es)=>i≤gs.length∧MI es) (fun (i,_)=>gs.length - i) (0,[]) su ⟨afU,by simp[MI]⟩ ?_
 rintro⟨i,es⟩ ⟨hi,he⟩
 try dsimp only at hi he
 by_cases bk:i<gs.length
 ·obtain⟨x,hx⟩: ∃x,gs[i]? =some x:=⟨_,aL bk⟩
  have Q7:=hgp i x hx
  conv=>whnf
  repeat' (first| intro g| refine wi (av hx rfl) ?_| refine st ?_| refine br ?_ ?_<;>intro hc| rfl) <;>conv=>whnf
  refine aO.by (fun ((k,es):Nat×List V)=> ⟨[(3,.mp 160 gm),(5,ar i),(13,.lit 1 (gs.map fun g=>V.lit 1 (g.map vi))),(14,ar gs.length),(15,ar i),(20,.lit 1 (x.map vi)),(21,ar x.length),(22,ar k)],[(160,⟨gm,0,false,false,some es⟩)]⟩)
   (fun (k,es)=>k≤x.length∧MI es) (fun (k,_)=>x.length - k) (0,es) su ⟨afU,he⟩ ?_
  clear he
  rintro⟨k,Ar⟩ ⟨hk,he⟩
  try dsimp only at hk he
  by_cases Vs:k<x.length
  ·obtain⟨y,hy⟩: ∃z,x[k]? =some z:=⟨_,aL Vs⟩
   obtain⟨es',hp,kE⟩:=CQ y (i:Int) he
   conv=>whnf
   repeat' (first| intro g| refine wi (av hy rfl) ?_| refine wi hp ?_| refine st ?_| refine br ?_ ?_<;>intro hc| rfl) <;>conv=>whnf
   exact aK.mk (k+1,es') om ⟨ae0,kE⟩ su
  ·conv=>whnf
   repeat' (first| intro g| refine st ?_| refine br ?_ ?_<;>intro hc| rfl) <;>conv=>whnf
   exact aK.mk (i+1,Ar) om ⟨ae0,he⟩ su
 ·have hp:=xM he
  have ht:=N3 he
  have hpi: (V.mlit es).au=true:=by simp only[V.au];exact hp
  conv=>whnf
  repeat' (first| intro g| refine st ?_| refine br ?_ ?_<;>intro hc| rfl) <;>conv=>whnf
  simp only[hpi]
  conv=>whnf
  repeat' (first| intro g| refine st ?_| refine br ?_ ?_<;>intro hc| rfl) <;>conv=>whnf
  exact⟨es,he,rfl⟩
theorem EM {ws:List Way} {n:Nat} (iG:n<ws.length) (hn:ws.length≤12) (hl: ∀w ∈ ws,yQ w): ∃b:Bool,Ev E 685 [.lit 8 (ws.map Way.v),ar n] ⟨.bool b,[]⟩:=by
 obtain⟨ea,ma,h1⟩:=yR hn hl
 have h2:=wA iG ae0
 have hlen: (ws.eraseIdx n).length=ws.length - 1:=by rw[agV];simp[iG]
 obtain⟨eb,mb,h3⟩:=yR (ws:=ws.eraseIdx n) ae0 (fun w hw=>hl w (List.mem_of_mem_eraseIdx hw))
 obtain⟨os,ZZ⟩: ∃x,ws.eraseIdx n=x:=⟨_,rfl⟩
 rw[ZZ] at h2 h3
 have p1:=xM ma
 have p2:=xM mb
 have q1: (V.mlit ea).au=true:=by simp only[V.au];exact p1
 have q2: (V.mlit eb).au=true:=by simp only[V.au];exact p2
 have hm:bC E 698=[]:=rfl
 have hp: ∀l:List V,V.ak [.lit 8 l]=true:=fun _=>rfl
 refine bp (Ev.bH rfl rfl rfl ?_)
 conv=>whnf
 repeat' (first| (first| refine gJ hm (hp _) h1 q1 ?_| refine gJ hm (hp _) h3 q2 ?_) | intro g| apply ca h2| refine st ?_| refine br ?_ ?_<;>intro hc| rfl) <;>conv=>whnf
 obtain⟨gm,Jz⟩: ∃x,x=g:=⟨_,rfl⟩
 rw[←Jz];clear Jz g
 refine aO.by (fun ((i,es):Nat×List V)=> ⟨[(1,ar n),(5,.mlit ea),(6,.mlit eb),(7,.mp 304 gm),(20,ar ws.length),(21,ar i)],[(304,⟨gm,0,false,false,some es⟩)]⟩)
  (fun (i,es)=>i≤ws.length∧MI es) (fun (i,_)=>ws.length - i) (0,[]) su ⟨afU,by simp[MI]⟩ ?_
 rintro⟨i,es⟩ ⟨hi,he⟩
 try dsimp only at hi he
 by_cases bk:i<ws.length
 case neg=>
  conv=>whnf
  repeat' (first| intro g| refine st ?_| refine br ?_ ?_<;>intro hc| rfl) <;>conv=>whnf
  exact⟨_,rfl⟩
 obtain⟨j1,ga⟩:=HE (i:Int) ma
 obtain⟨j2,b2,gb⟩:=RV j1 he
 obtain⟨l1,gl1⟩:=HE (i:Int) mb
 obtain⟨l2,gl2⟩:=HE (IntKind.i64.wrap ((i:Int) - 1)) mb
 obtain⟨e1,Hi,Xr⟩:=CQ j1 l1 he
 obtain⟨e2,Hj,T3⟩:=CQ j1 l2 he
 cases b2
 ·conv=>whnf
  repeat' (first| intro g| refine wi ga ?_| refine wi gb ?_| refine wi gl1 ?_| refine wi gl2 ?_| refine wi Hi ?_| refine wi Hj ?_| refine st ?_| refine br ?_ ?_<;>intro hc| rfl) <;>conv=>whnf
  all_goals first| exact⟨_,rfl⟩ | (refine aK.mk (i+1,e1) om ⟨ae0,Xr⟩ ?_;exact su;done) | (refine aK.mk (i+1,e2) om ⟨ae0,T3⟩ ?_;exact su;done) | (refine aK.mk (i+1,es) om ⟨ae0,he⟩ ?_;exact su;done)
 ·conv=>whnf
  repeat' (first| intro g| refine wi ga ?_| refine wi gb ?_| refine wi gl1 ?_| refine wi gl2 ?_| refine wi Hi ?_| refine wi Hj ?_| refine st ?_| refine br ?_ ?_<;>intro hc| rfl) <;>conv=>whnf
  all_goals first| exact⟨_,rfl⟩ | (refine aK.mk (i+1,e1) om ⟨ae0,Xr⟩ ?_;exact su;done) | (refine aK.mk (i+1,e2) om ⟨ae0,T3⟩ ?_;exact su;done) | (refine aK.mk (i+1,es) om ⟨ae0,he⟩ ?_;exact su;done)
end Go.AM
namespace Go.AM
structure EN where
 x:Int
 y:Int
 l:Int
def EN.v (s:EN):V:= .agg [vi s.x,vi s.y,vi s.l]
theorem N4 {l:List EN} {g:Nat} {caps:List V} (hc:V.ak caps=true) {p:EN→Bool} (hlen:l.length< 4611686018427387904)
  (hp: ∀x:EN,Ev E g (EN.v x::caps) ⟨.bool (p x),[]⟩) (hm:bC E g=[]):Ev E 694 [.lit 3 (l.map EN.v),.fn g caps] ⟨.bool (decide (0≤firstIdx p l)),[]⟩:=by
 exact tG (a:=true) (j:=701) (fun _=>rfl) (fun _=>rfl) hc hlen hp hm
theorem EO (l:List EN) (hlen:l.length< 4611686018427387904) (s:EN): ∃r:Int,Ev E 702 [.lit 3 (l.map EN.v),s.v] ⟨vi r,[]⟩:=bp (g:=vi) (Ev.bH rfl rfl rfl (by
 conv=>whnf
 repeat' (first| intro g| refine st ?_| refine br ?_ ?_<;>intro hc| rfl) <;>conv=>whnf
 refine aO.by (fun i:Nat=> ⟨[(0,.lit 3 (l.map EN.v)),(3,.ptr 64 g 0 0),(7,ar l.length),(8,ar i)],[(64,⟨g,3,false,false,some [s.v]⟩)]⟩) (fun i=>i≤l.length) (fun i=>l.length - i) 0 su ae0 ?_
 intro i hi
 by_cases bk:i<l.length
 ·obtain⟨x,hx⟩: ∃x,l[i]? =some x:=⟨_,aL bk⟩
  conv=>whnf
  repeat' (first| intro g| refine wi (av hx rfl) ?_| refine st ?_| refine br ?_ ?_<;>intro hc| rfl) <;>conv=>whnf
  ·exact⟨_,rfl⟩
  ·exact aK.mk (i+1) om ae0 su
 ·conv=>whnf
  repeat' (first| intro g| refine st ?_| refine br ?_ ?_<;>intro hc| rfl) <;>conv=>whnf
  exact⟨_,rfl⟩))
theorem EP (l:List EN) (hlen:l.length< 4611686018427387904) (s:EN): ∃r:Bool,Ev E 697 [.lit 3 (l.map EN.v),s.v] ⟨.bool r,[]⟩:=by
 obtain⟨r,h⟩:=EO l hlen s
 refine bp (Ev.bH rfl rfl rfl ?_)
 conv=>whnf
 repeat' (first| intro g| apply ca h| refine st ?_| refine br ?_ ?_<;>intro hc| rfl) <;>conv=>whnf
 exact⟨_,rfl⟩
def ER (w:Way):List EN:=match w.line[0]?,w.line[w.line.length - 1]? with
 | some p,some q=> [⟨p.x,p.y,w.level⟩,⟨q.x,q.y,w.level⟩]
 | _,_=> []
theorem Bp {w:Way} (h:yQ w):Ev E 695 [w.v] ⟨.own 3 ((ER w).map EN.v),[]⟩:=by
 obtain⟨p,q,hp⟩:=Xo.ex h.1 h.2
 have:=yK hp
 unfold ER
 rw[hp.first,hp.last]
 exact this
theorem ES (w:Way): (ER w).length< 1000:=by
 unfold ER
 split<;>simp
theorem ET {u:Way} (h:yQ u) (s:EN): ∃r:Bool,Ev E 696 [s.v,.eptr u.v 0] ⟨.bool r,[]⟩:=by
 have h1:=Bp h
 obtain⟨r,h2⟩:=EP (ER u) (by have:=ES u;omega) s
 generalize ER u=l at h1 h2
 refine bp (Ev.bH rfl rfl rfl ?_)
 conv=>whnf
 repeat' (first| intro g| apply ca h1| apply ca h2| refine st ?_| refine br ?_ ?_<;>intro hc| rfl) <;>conv=>whnf
 exact⟨_,rfl⟩
theorem HG {w u:Way} (hw:yQ w) (hu:yQ u): ∃r:Bool,Ev E 684 [w.v,u.v] ⟨.bool r,[]⟩:=by
 have h1:=Bp hw
 obtain⟨p,hp⟩:=sk1 (ET hu)
 have h2:=N4 (l:=ER w) (caps:=[.eptr u.v 0]) rfl (by have:=ES w;omega) hp rfl
 generalize ER w=l at h1 h2
 refine bp (Ev.bH rfl rfl rfl ?_)
 conv=>whnf
 repeat' (first| intro g| apply ca h1| apply ca h2| refine st ?_| refine br ?_ ?_<;>intro hc| rfl) <;>conv=>whnf
 exact⟨_,rfl⟩
end Go.AM
namespace Go.AM
def TI (es:List V):Prop:= ∀e ∈ es,∃ (d:Int) (n:CB) (c:Int),e= .tuple [.agg [vi d,.str n],vi c]
theorem HH: ∀ {es:List V},TI es→es.all (Eg [1,2])=true
 | [],_=>rfl
 | e::es,h=>by
   obtain⟨d,n,c,rfl⟩:=h e afU
   have:=HH (es:=es) (fun x hx=>h x (by simp[hx]))
   simp only[agj,this,agB]
   rfl
theorem N6 (d d':Int) (n n':CB):dn [1,2] (.agg [vi d,.str n]) (.agg [vi d',.str n'])=some ((d==d') &&decide (n=n')):=by
 simp[dn,cR,GO]
theorem EU (d:Int) (n:CB): ∀ {es:List V},TI es→ ∃c:Int,eu [1,2] (.agg [vi d,.str n]) es=vi c
 | [],_=> ⟨0,rfl⟩
 | e::es,h=>by
   obtain⟨d',n',c,rfl⟩:=h e afU
   obtain⟨c',Co⟩:=EU d n (es:=es) (fun x hx=>h x (by simp[hx]))
   simp only[eu,N6]
   cases hb: ((d==d') &&decide (n=n')) with
   | true=>exact⟨c,rfl⟩
   | false=>exact⟨c',Co⟩
theorem N7 (d:Int) (n:CB): ∀ {es:List V} (i:Nat),TI es→dZ [1,2] (.agg [vi d,.str n]) i es=some none∨ ∃ (j:Nat) (c:Int) (d':Int) (n':CB),dZ [1,2] (.agg [vi d,.str n]) i es=some (some (i+j,vi c))∧es[j]? =some (.tuple [.agg [vi d',.str n'],vi c])
 | [],_,_=> .inl rfl
 | e::es,i,h=>by
   obtain⟨d',n',c,rfl⟩:=h e afU
   simp only[dZ,N6]
   cases hb: ((d==d') &&decide (n=n')) with
   | true=>exact .inr ⟨0,c,d',n',rfl,rfl⟩
   | false=>
     rcases N7 d n (es:=es) (i+1) (fun x hx=>h x (by simp[hx])) with h1| ⟨j,c',d2,n2,h1,h2⟩
     ·exact .inl h1
     ·refine .inr ⟨j+1,c',d2,n2,?_,by simpa using h2⟩
      rw[show i+(j+1)=i+1+j from by omega];exact h1
theorem N8 (d:Int) (n:CB): ∀ {es:List V},TI es→ ∃c:Int,dB [1,2] false (.int .i64 0) es (.agg [vi d,.str n])= .done (vi c)
 | [],_=> ⟨0,rfl⟩
 | e::es,h=>by
   obtain⟨d',n',c,rfl⟩:=h e afU
   obtain⟨c',Co⟩:=N8 d n (es:=es) (fun x hx=>h x (by simp[hx]))
   simp only[dB,cG,N6] at Co ⊢
   cases hb: ((d==d') &&decide (n=n')) with
   | true=>exact⟨c,rfl⟩
   | false=>exact⟨c',Co⟩
theorem TI.set {es:List V} (h:TI es) (j:Nat) (d:Int) (n:CB) (c:Int):TI (es.set j (.tuple [.agg [vi d,.str n],vi c])):=fun e he=>by
 rcases agf he with he| rfl
 ·exact h e he
 ·exact⟨d,n,c,rfl⟩
theorem TI.snoc {es:List V} (h:TI es) (d:Int) (n:CB) (c:Int):TI (es++[.tuple [.agg [vi d,.str n],vi c]]):=fun e he=>by
 rcases agd.1 he with he| he
 ·exact h e he
 ·exact⟨d,n,c,by simpa using he⟩
theorem KS {ks:List Nat} {k:V} {es:List V} {j:Nat} {v:V} (h:dZ ks k 0 es=some (some (j,v))): (match dZ ks k 0 es with
 | some (some (j',v'))=> (V.tuple [v,.int .i64 j],es)=(V.tuple [v',.int .i64 j'],es)
 | some none=> (V.tuple [v,.int .i64 j],es)=(V.tuple [.int .i64 0,.int .i64 es.length],es++[.tuple [k,.int .i64 0]])
 | none=>False):=by rw[h]
theorem RW {ks:List Nat} {k:V} {es:List V} (h:dZ ks k 0 es=some none): (match dZ ks k 0 es with
 | some (some (j',v'))=> (V.tuple [.int .i64 0,.int .i64 es.length],es++[.tuple [k,.int .i64 0]])=(V.tuple [v',.int .i64 j'],es)
 | some none=> (V.tuple [.int .i64 0,.int .i64 es.length],es++[.tuple [k,.int .i64 0]])=(V.tuple [.int .i64 0,.int .i64 es.length],es++[.tuple [k,.int .i64 0]])
 | none=>False):=by rw[h]
theorem EV {es:List V} {j:Nat} {k w v:V} (h:es[((j:Nat):Int).toNat]? =some (.tuple [k,w])): ∃k' w',es[((j:Nat):Int).toNat]? =some (.tuple [k',w'])∧es.set ((j:Nat):Int).toNat (.tuple [k,v])=es.set ((j:Nat):Int).toNat (.tuple [k',v]):=⟨k,w,h,rfl⟩
theorem Bq {m:aG} {id:Int} (hw:m.ways.length< 1000000) (h:oh m.ways id= -1):Ev E 676 [m.v,vi id] ⟨vi 5,[]⟩:=by
 have h1:=pC hw id
 rw[h] at h1
 refine Ev.aI rfl rfl rfl ?_
 exact dr
theorem KT {m:aG} {id:Int} (hw:m.ways.length≤12) (hl: ∀w ∈ m.ways,yQ w) {k:Nat} {w:Way} (h:oh m.ways id=k) (hk:m.ways[k]? =some w): ∃c:Int,Ev E 676 [m.v,vi id] ⟨vi c,[]⟩:=by
 have h1:=pC (m:=m) ae0 id
 rw[h] at h1
 have hlw:=hl w (List.mem_of_getElem? hk)
 refine bp (g:=vi) (Ev.bH rfl rfl rfl ?_)
 conv=>whnf
 repeat' (first| ((exfalso;omega)) | intro g| refine wi (av hk rfl) ?_| apply ca h1| refine st ?_| refine br ?_ ?_<;>intro hc| rfl) <;>conv=>whnf
 rename_i xj pD
 obtain⟨g0,Ak⟩: ∃x,x=g:=⟨_,rfl⟩
 rw[←Ak];clear Ak g
 have U0:=(af0.1 hk).1
 refine aO.by (fun ((i,b,L,pl,g):Nat×Bool×List Way×Nat×Nat)=> ⟨[(2,.ptr 48 xj 0 0),(5,ar k),(6,.ptr 112 pD 0 0),(7,.bool b),(8,.sl 145 g 0 L.length),(9,ar pl),(29,.lit 8 (m.ways.map Way.v)),(30,ar m.ways.length),(31,ar i)],
   [(48,⟨xj,4,false,false,some [m.v]⟩),(112,⟨pD,8,false,false,some [w.v]⟩),(145,⟨g,8,true,false,some (L.map Way.v)⟩)]⟩)
  (fun (i,b,L,pl,_)=>i≤m.ways.length∧L.length≤i∧(∀x ∈ L,x ∈ m.ways)∧(k<i→pl<L.length)) (fun (i,_)=>m.ways.length - i) (0,_,[],0,g0) su ⟨afU,afU,afU,afU⟩ ?_
 rintro⟨i,b,L,pl,gl⟩ ⟨hi,hL,hm,DY⟩
 try dsimp only at hi hL hm DY
 by_cases bk:i<m.ways.length
 ·obtain⟨x,hx⟩: ∃x,m.ways[i]? =some x:=⟨_,aL bk⟩
  have hxm:=List.mem_of_getElem? hx
  obtain⟨j,hj⟩:=HG (hl x hxm) hlw
  have jZ: ∀y ∈ L++[x],y ∈ m.ways:=fun y hy=>by
   rcases agd.1 hy with hy| hy
   ·exact hm y hy
   ·rw[agW.1 hy];exact hxm
  by_cases hd:x.bB=w.bB
  ·by_cases EC:i=k
   ·subst EC
    conv=>whnf
    repeat' (first| ((exfalso;omega)) | intro g| refine wi (av hx rfl) ?_| refine st ?_| refine br ?_ ?_<;>intro hc| rfl) <;>conv=>whnf
    exact aK.mk (i+1,b,L++[x],L.length,g) om ⟨ae0,by simp;omega,jZ,afU⟩ su
   ·have afC: ¬ (i:Int)=(k:Int):=ae0
    conv=>whnf
    repeat' (first| ((exfalso;omega)) | intro g| refine wi (av hx rfl) ?_| refine st ?_| refine br ?_ ?_<;>intro hc| rfl) <;>conv=>whnf
    exact aK.mk (i+1,b,L++[x],pl,g) om ⟨ae0,by simp;omega,jZ,fun h=>by have:=DY ae0;simp;omega⟩ su
  ·have EC:i≠k:=fun e=>by subst e;rw[hk] at hx;injection hx with hx;exact hd (by rw[hx])
   cases b
   ·conv=>whnf
    repeat' (first| ((exfalso;omega)) | intro g| refine wi (av hx rfl) ?_| apply ca hj| refine st ?_| refine br ?_ ?_<;>intro hc| rfl) <;>conv=>whnf
    exact aK.mk (i+1,_,L,pl,gl) om ⟨ae0,ae0,hm,fun h=>DY ae0⟩ su
   ·conv=>whnf
    repeat' (first| ((exfalso;omega)) | intro g| refine wi (av hx rfl) ?_| apply ca hj| refine st ?_| refine br ?_ ?_<;>intro hc| rfl) <;>conv=>whnf
    exact aK.mk (i+1,_,L,pl,gl) om ⟨ae0,ae0,hm,fun h=>DY ae0⟩ su
 obtain rfl:i=m.ways.length:=ae0
 have aec:=DY U0
 clear bk hi DY
 conv=>whnf
 repeat' (first| intro g| refine st ?_| refine br ?_ ?_<;>intro hc| rfl) <;>conv=>whnf
 obtain⟨gm,Jz⟩: ∃x,x=g:=⟨_,rfl⟩
 rw[←Jz];clear Jz g
 refine aO.by (fun ((i,es):Nat×List V)=> ⟨[(6,.ptr 112 pD 0 0),(7,.bool b),(8,.sl 145 gl 0 L.length),(9,ar pl),(12,.mp 944 gm),(60,.lit 8 (m.ways.map Way.v)),(61,ar m.ways.length),(62,ar i)],
   [(112,⟨pD,8,false,false,some [w.v]⟩),(145,⟨gl,8,true,false,some (L.map Way.v)⟩),(944,⟨gm,0,false,false,some es⟩)]⟩)
  (fun (i,es)=>i≤m.ways.length∧TI es) (fun (i,_)=>m.ways.length - i) (0,[]) su ⟨afU,by simp[TI]⟩ ?_
 rintro⟨i,es⟩ ⟨hi,he⟩
 try dsimp only at hi he
 by_cases bk:i<m.ways.length
 ·obtain⟨x,hx⟩: ∃x,m.ways[i]? =some x:=⟨_,aL bk⟩
  obtain⟨c,Z0⟩:=EU x.bB x.name he
  have ht:=HH he
  rcases N7 x.bB x.name 0 he with qZ| ⟨j,c2,d2,n2,qZ,iG⟩
  ·have Kz:=RW qZ
   have iG: (es++[V.tuple [.agg [vi x.bB,.str x.name],.int .i64 0]])[((es.length:Nat):Int).toNat]? =some (.tuple [.agg [vi x.bB,.str x.name],.int .i64 0]):=by
    rw[ahf,agU (af6 _),Nat.sub_self];rfl
   conv=>whnf
   repeat' (first| intro g| refine wi (av hx rfl) ?_| refine wi Kz ?_| refine wi (EV iG) ?_| refine st ?_| refine br ?_ ?_<;>intro hc| rfl| (rw[Z0])) <;>conv=>whnf
   exact aK.mk (i+1,(es++[V.tuple [.agg [vi x.bB,.str x.name],vi 0]]).set ((es.length:Nat):Int).toNat (.tuple [.agg [vi x.bB,.str x.name],vi (IntKind.i64.wrap (c+1))])) om ⟨ae0,(he.snoc x.bB x.name 0).set _ _ _ _⟩ su
  ·rw[agK] at qZ
   have Kz:=KS qZ
   have Ay:es[((j:Nat):Int).toNat]? =some (.tuple [.agg [vi d2,.str n2],vi c2]):=iG
   conv=>whnf
   repeat' (first| intro g| refine wi (av hx rfl) ?_| refine wi Kz ?_| refine wi (EV Ay) ?_| refine st ?_| refine br ?_ ?_<;>intro hc| rfl| (rw[Z0])) <;>conv=>whnf
   exact aK.mk (i+1,es.set ((j:Nat):Int).toNat (.tuple [.agg [vi d2,.str n2],vi (IntKind.i64.wrap (c+1))])) om ⟨ae0,he.set _ _ _ _⟩ su
 obtain⟨c1,hg⟩:=N8 w.bB w.name he
 obtain⟨r,hb⟩:=EM aec ae0 (fun y hy=>hl y (hm y hy))
 have ht:=HH he
 cases b
 ·cases r
  ·by_cases RD:w.name=[]
   ·conv=>whnf
    repeat' (first| intro g| refine wi hg ?_| refine wi (iW (by rw[List.length_map])) ?_| apply ca hb| refine st ?_| refine br ?_ ?_<;>intro hc| rfl) <;>conv=>whnf
    all_goals exact⟨_,rfl⟩
   ·conv=>whnf
    repeat' (first| intro g| refine wi hg ?_| refine wi (iW (by rw[List.length_map])) ?_| apply ca hb| refine st ?_| refine br ?_ ?_<;>intro hc| rfl) <;>conv=>whnf
    all_goals exact⟨_,rfl⟩
  ·conv=>whnf
   repeat' (first| intro g| refine wi hg ?_| refine wi (iW (by rw[List.length_map])) ?_| apply ca hb| refine st ?_| refine br ?_ ?_<;>intro hc| rfl) <;>conv=>whnf
   all_goals exact⟨_,rfl⟩
 ·exact dr
end Go.AM
namespace Go.AM
theorem Ev.Z1 {f:Nat} {eV:List V} {r s:eL} (h:Ev E f eV r) (k:Ev E f eV s):r=s:=by
 obtain⟨n,h⟩:=h
 obtain⟨m,k⟩:=k
 have a:=dO (agw n m) _ _ _ h
 have b:=dO (ago n m) _ _ _ k
 rw[a] at b
 injection b
theorem CS {a b:Int} (h: (⟨vi a,[]⟩:eL)=⟨vi b,[]⟩):a=b:=by
 injection h with h
 unfold vi at h
 injection h
inductive yS (m:aG):Event→Prop
 | drop {t a n c:Int} (h1:Ev E 526 [m.v,vi a,vi n] ⟨vi 0,[]⟩) (h2:Ev E 527 [m.v,vi a,vi n] ⟨vi c,[]⟩) (h3:1≤t) (h4:c≤t):yS m ⟨1,t,a,0,n⟩
 | N9 {t a b c:Int} (h1:Ev E 487 [m.v,vi a,vi b] ⟨vi 0,[]⟩) (h2:Ev E 489 [m.v,vi a,vi b] ⟨vi c,[]⟩) (h3:1≤t) (h4:c≤t):yS m ⟨2,t,a,b,0⟩
 | thin {t a c:Int} (h1:Ev E 676 [m.v,vi a] ⟨vi 0,[]⟩) (h2:Ev E 678 [m.v,vi a] ⟨vi c,[]⟩) (h3:1≤t) (h4:c≤t):yS m ⟨3,t,a,0,0⟩
 | yT {t a b c:Int} (h1:Ev E 8 [m.v,vi a,vi b] ⟨vi 0,[]⟩) (h2:Ev E 12 [m.v,vi a,vi b] ⟨vi c,[]⟩) (h3:1≤t) (h4:c≤t):yS m ⟨4,t,a,b,0⟩
theorem yS.up {m:aG} {e:Event} (h:yS m e) {t:Int} (ht:e.at_≤t):yS m ⟨e.kind,t,e.id,e.other,e.n⟩:=by
 cases h with
 | drop h1 h2 h3 h4=>exact .drop h1 h2 (ahL h3 ht) (ahL h4 ht)
 | N9 h1 h2 h3 h4=>exact .N9 h1 h2 (ahL h3 ht) (ahL h4 ht)
 | thin h1 h2 h3 h4=>exact .thin h1 h2 (ahL h3 ht) (ahL h4 ht)
 | yT h1 h2 h3 h4=>exact .yT h1 h2 (ahL h3 ht) (ahL h4 ht)
theorem T4 (x:Int):1≤(if 1 <x then x else 1)∧x≤(if 1 <x then x else 1):=by
 split<;>omega
end Go.AM
namespace Go.AM
structure aG.Bd (m:aG):Prop where
 e:m.az.length≤18
 el: ∀e ∈ m.az,e.line.length< 10
 f:m.al.length≤36
 w:m.ways.length≤12
 wl: ∀w ∈ m.ways,yQ w
 p:m.aA.length≤6
def T5 (f:Nat) (args:List V):Prop:= ∃ (v:V) (M:aG) (c:Int),Ev E f args ⟨v,[]⟩∧Jy v (.tuple [M.v,vi c])∧M.Bd
def wB (f:Nat) (args:List V):Prop:= ∃ (v:V) (M:aG),Ev E f args ⟨v,[]⟩∧Jy v (.tuple [M.v,vi 0])∧M.Bd
theorem wB.mk {f:Nat} {args:List V} (h: ∃res,Ev E f args res∧ ∃ (v:V) (M:aG),res=⟨v,[]⟩∧Jy v (.tuple [M.v,vi 0])∧M.Bd):wB f args:=by
 obtain⟨_,h1,v,M,rfl,h3,h4⟩:=h
 exact⟨v,M,h1,h3,h4⟩
theorem Oa {m:aG} (h:m.Bd) (id:Int): ∃c:Int,Ev E 676 [m.v,vi id] ⟨vi c,[]⟩:=by
 rcases dU (fun w:Way=>decide (w.id=id)) m.ways with⟨h1,_⟩ | ⟨k,w,h1,h2,h3⟩
 ·exact⟨5,Bq (by have:=h.w;omega) h1⟩
 ·exact KT h.w h.wl h1 h2
theorem KU {m:aG} {k:Nat} {w:Way} (hk:m.ways[k]? =some w) (hw:m.ways.length< 1000000): ∃c:Int,Ev E 686 [vi k,.eptr m.v 0] ⟨vi c,[]⟩:=by
 have:=(af0.1 hk).1
 refine bp (g:=vi) (Ev.bH rfl rfl rfl ?_)
 exact dr1
theorem KV (m:aG):Ev E 686 [vi (-1),.eptr m.v 0] ⟨vi 0,[]⟩:=by
 refine Ev.aI rfl rfl rfl ?_
 exact dr
theorem KW {m:aG} (h:m.Bd) (id:Int): ∃c:Int,Ev E 678 [m.v,vi id] ⟨vi c,[]⟩:=by
 have hw:=h.w
 have h1:=pC (m:=m) ae0 id
 rcases dU (fun w:Way=>decide (w.id=id)) m.ways with⟨hf,_⟩ | ⟨k,w,hf,h2,h3⟩
 ·have hf:oh m.ways id= -1:=hf
  rw[hf] at h1
  have h0:=KV m
  refine bp (g:=vi) (Ev.bH rfl rfl rfl ?_)
  exact dr
 ·have hf:oh m.ways id=k:=hf
  rw[hf] at h1
  obtain⟨c,h0⟩:=KU h2 ae0
  refine bp (g:=vi) (Ev.bH rfl rfl rfl ?_)
  exact dr
theorem T5.mk {f:Nat} {args:List V} (h: ∃res,Ev E f args res∧ ∃ (v:V) (M:aG) (c:Int),res=⟨v,[]⟩∧Jy v (.tuple [M.v,vi c])∧M.Bd):T5 f args:=by
 obtain⟨_,h1,v,M,c,rfl,h2,h3⟩:=h
 exact⟨v,M,c,h1,h2,h3⟩
theorem KX {m:aG} (h:m.Bd) {id:Int} (hc:Ev E 676 [m.v,vi id] ⟨vi 0,[]⟩):wB 680 [m.v,vi id]:=by
 have hw:=h.w
 have h1:=pC (m:=m) ae0 id
 rcases dU (fun w:Way=>decide (w.id=id)) m.ways with⟨hf,_⟩ | ⟨k,w,hf,h2,h3⟩
 ·exact absurd (CS (hc.Z1 (Bq ae0 hf))) afV
 have hf:oh m.ways id=k:=hf
 rw[hf] at h1
 have hk:=(af0.1 h2).1
 have ho:=wA hk ae0
 obtain⟨os,ZZ⟩: ∃x,m.ways.eraseIdx k=x:=⟨_,rfl⟩
 have aed:os.length≤12:=by rw[←ZZ,agV];split<;>omega
 have Z2: ∀w ∈ os,yQ w:=fun w hw=>h.wl w (by rw[←ZZ] at hw;exact List.mem_of_mem_eraseIdx hw)
 rw[ZZ] at ho
 obtain⟨L,hL1,hL2,Xr⟩:=EL (f:=691) rfl (P:=yQ) (ws:=os) ae0 (fun i w hw=>by
  obtain⟨v,k1,k2⟩:=Vq i w (by have:=(Z2 w hw).2;omega)
  exact⟨v,w,k1,k2,Z2 w hw⟩)
 obtain⟨S,hS1,Xs,T3⟩:=NZ (f:=688) rfl (P:=fun e=>e.line.length< 10) (ws:=m.az) (by have:=h.e;omega) (fun i e he=>by
  have:=h.el e he
  obtain⟨v,k1,k2⟩:=Vr i e ae0
  exact⟨v,e,k1,k2,this⟩)
 have c2:=qE m.al (by have:=h.f;omega)
 have c4:=ns m.aA (by have:=h.p;omega)
 refine .mk (Ev.bH rfl rfl rfl ?_)
 conv=>whnf
 repeat' (first| ((exfalso;omega)) | intro g| apply ca hc| apply ca h1| apply ca ho| apply ca Xr| apply ca T3| apply ca c2| apply ca c4| refine st ?_| refine br ?_ ?_<;>intro hc| rfl) <;>conv=>whnf
 exact⟨_,⟨S,m.al,L,m.aA⟩,rfl,fun _ _=>rfl,⟨by dsimp only;have:=h.e;omega,Xs,h.f,om,hL2,h.p⟩⟩
theorem Ob {m:aG} (h:m.Bd) (d:Int): ∃l:List Event,l.length≤m.ways.length∧(∀e ∈ l,yS m e)∧Ev E 681 [m.v,vi d] ⟨.own 5 (l.map Event.v),[]⟩:=by
 suffices hh: ∃res,Ev E 681 [m.v,vi d] res∧ ∃l:List Event,l.length≤m.ways.length∧(∀e ∈ l,yS m e)∧res=⟨.own 5 (l.map Event.v),[]⟩ by
  obtain⟨_,h1,l,h2,h3,rfl⟩:=hh
  exact⟨l,h2,h3,h1⟩
 have hw:=h.w
 refine Ev.bH rfl rfl rfl ?_
 conv=>whnf
 repeat' (first| intro g| refine st ?_| refine br ?_ ?_<;>intro hc| rfl) <;>conv=>whnf
 rename_i xj
 obtain⟨g0,Ak⟩: ∃x,x=g:=⟨_,rfl⟩
 rw[←Ak];clear Ak g
 refine aO.by (fun ((i,l,g):Nat×List Event×Nat)=> ⟨[(1,vi d),(2,.ptr 48 xj 0 0),(4,.sl 81 g 0 l.length),(8,.lit 8 (m.ways.map Way.v)),(9,ar m.ways.length),(10,ar i)],[(48,⟨xj,4,false,false,some [m.v]⟩),(81,⟨g,5,true,false,some (l.map Event.v)⟩)]⟩)
  (fun (i,l,_)=>i≤m.ways.length∧l.length≤i∧ ∀e ∈ l,yS m e) (fun (i,_)=>m.ways.length - i) (0,[],g0) su ⟨afU,afU,afU⟩ ?_
 rintro⟨i,l,gl⟩ ⟨hi,hl,hp⟩
 try dsimp only at hi hl hp
 by_cases bk:i<m.ways.length
 case neg=>
  conv=>whnf
  repeat' (first| intro g| refine st ?_| refine br ?_ ?_<;>intro hc| rfl) <;>conv=>whnf
  exact⟨l,ae0,hp,rfl⟩
 obtain⟨w,hx⟩: ∃x,m.ways[i]? =some x:=⟨_,aL bk⟩
 have h1:=pC (m:=m) ae0 w.id
 obtain⟨c,h2⟩:=Oa h w.id
 obtain⟨q,h3⟩:=KW h w.id
 generalize oh m.ways w.id=fw at h1
 by_cases hd:w.bB=d
 ·by_cases hf:fw=(i:Int)
  ·by_cases hc:c=0
   ·subst hc
    conv=>whnf
    repeat' (first| contradiction| intro g| refine wi (av hx rfl) ?_| apply ca h1| apply ca h2| apply ca h3| refine st ?_| refine br ?_ ?_<;>intro hc| rfl) <;>conv=>whnf
    refine aK.mk (i+1,l++[⟨3,if 1 <q then q else 1,w.id,0,0⟩],g) om ⟨ae0,by simp;omega,fun e he=> ?_⟩ su
    rcases agd.1 he with he| he
    ·exact hp e he
    ·rw[agW.1 he]
     exact .thin h2 h3 (T4 q).1 (T4 q).2
   ·conv=>whnf
    repeat' (first| contradiction| intro g| refine wi (av hx rfl) ?_| apply ca h1| apply ca h2| apply ca h3| refine st ?_| refine br ?_ ?_<;>intro hc| rfl) <;>conv=>whnf
    exact aK.mk (i+1,l,gl) om ⟨ae0,ae0,hp⟩ su
  ·conv=>whnf
   repeat' (first| contradiction| intro g| refine wi (av hx rfl) ?_| apply ca h1| apply ca h2| apply ca h3| refine st ?_| refine br ?_ ?_<;>intro hc| rfl) <;>conv=>whnf
   exact aK.mk (i+1,l,gl) om ⟨ae0,ae0,hp⟩ su
 ·conv=>whnf
  repeat' (first| contradiction| intro g| refine wi (av hx rfl) ?_| apply ca h1| apply ca h2| apply ca h3| refine st ?_| refine br ?_ ?_<;>intro hc| rfl) <;>conv=>whnf
  exact aK.mk (i+1,l,gl) om ⟨ae0,ae0,hp⟩ su
end Go.AM
namespace Go.AM.Dr
theorem pk (x:Int):Ev E 36 [vi x] ⟨.bool false,[]⟩:=by
 refine Ev.aI rfl rfl rfl ?_
 conv=>whnf
 repeat' (first| intro g| refine st ?_| refine br ?_ ?_<;>intro hc| rfl) <;>conv=>whnf
 all_goals simp
def tI (x y:Int):Int:=if x<y then -1 else if y<x then 1 else 0
theorem eD (x y:Int):Ev E 23 [vi x,vi y] ⟨vi (tI x y),[]⟩:=by
 refine Ev.aI rfl rfl rfl ?_
 conv=>whnf
 repeat' (first| intro g| apply ca (pk x) | apply ca (pk y) | refine st ?_| refine br ?_ ?_<;>intro hc| rfl) <;>conv=>whnf
 all_goals simp[tI, *]
 all_goals omega
def NA (a b:Int):Int:=if a=0 then b else a
theorem Hk (a b:Int):Ev E 22 [.lit 1 [vi a,vi b]] ⟨vi (NA a b),[]⟩:=by
 refine Ev.aI rfl rfl rfl ?_
 conv=>whnf
 repeat' (first| intro g| refine st ?_| refine br ?_ ?_<;>intro hc| rfl) <;>conv=>whnf
 refine aO.by (fun i:Nat=> ⟨[(3,vi 0),(6,.lit 1 [vi a,vi b]),(7,ar 2),(8,ar i)],[]⟩) (fun i=>i≤2∧(1≤i→a=0)∧(2≤i→b=0)) (fun i=>2 - i) 0 ?_ ?_ ?_
 ·exact su
 ·simp
 rintro i ⟨hi,h1,h2⟩
 rcases(by omega:i=0∨i=1∨i=2) with rfl| rfl| rfl
 ·conv=>whnf
  repeat' (first| intro g| refine st ?_| refine br ?_ ?_<;>intro hc| rfl) <;>conv=>whnf
  ·simp[NA,hc]
  ·exact aK.mk 1 om ⟨by omega,fun _=>by simpa using hc,fun h=>by omega⟩ su
 ·have ha:=h1 (by omega)
  conv=>whnf
  repeat' (first| intro g| refine st ?_| refine br ?_ ?_<;>intro hc| rfl) <;>conv=>whnf
  ·simp[NA,ha]
  ·exact aK.mk 2 om ⟨by omega,fun _=>ha,fun _=>by simpa using hc⟩ su
 ·have ha:=h1 (by omega)
  have hb:=h2 (by omega)
  conv=>whnf
  repeat' (first| intro g| refine st ?_| refine br ?_ ?_<;>intro hc| rfl) <;>conv=>whnf
  all_goals simp[NA,ha,hb]
theorem Bt (a:Int): ∃r:Int,Ev E 287 [vi a] ⟨vi r,[]⟩:=by
 refine bp (Ev.bH rfl rfl rfl ?_)
 conv=>whnf
 repeat' (first| intro g| apply ca (eD _ _) | refine st ?_| refine br ?_ ?_<;>intro hc| rfl) <;>conv=>whnf
 all_goals exact⟨_,rfl⟩
noncomputable def Vt (a:Int):Int:=(Bt a).choose
theorem Od (a:Int):Ev E 287 [vi a] ⟨vi (Vt a),[]⟩:=(Bt a).choose_spec
theorem Bu (a:Int): ∃r:Int,Ev E 299 [vi a] ⟨.int .u64 r,[]⟩:=by
 refine bp (Ev.bH rfl rfl rfl ?_)
 exact dr
noncomputable def Vu (a:Int):Int:=(Bu a).choose
theorem Oe (a:Int):Ev E 299 [vi a] ⟨.int .u64 (Vu a),[]⟩:=(Bu a).choose_spec
theorem Bv (a:Int): ∃r:Bool,Ev E 304 [.int .u64 a] ⟨.bool r,[]⟩:=by
 refine bp (Ev.bH rfl rfl rfl ?_)
 exact dr
noncomputable def Vv (a:Int):Bool:=(Bv a).choose
theorem Og (a:Int):Ev E 304 [.int .u64 a] ⟨.bool (Vv a),[]⟩:=(Bv a).choose_spec
theorem Bw (a:Int) (b:Int): ∃r:Int,Ev E 300 [.int .u64 a,.int .u64 b] ⟨vi r,[]⟩:=by
 refine bp (Ev.bH rfl rfl rfl ?_)
 conv=>whnf
 repeat' (first| intro g| apply ca (Og _) | refine st ?_| refine br ?_ ?_<;>intro hc| rfl) <;>conv=>whnf
 all_goals exact⟨_,rfl⟩
noncomputable def Vw (a:Int) (b:Int):Int:=(Bw a b).choose
theorem Oi (a:Int) (b:Int):Ev E 300 [.int .u64 a,.int .u64 b] ⟨vi (Vw a b),[]⟩:=(Bw a b).choose_spec
theorem By (a:Int) (b:Int): ∃r:Int×Int,Ev E 298 [.int .u64 a,.int .u64 b] ⟨.tuple [.int .u64 r.1,.int .u64 r.2],[]⟩:=by
 refine bp (Ev.bH rfl rfl rfl ?_)
 conv=>whnf
 repeat' (first| intro g| refine st ?_| refine br ?_ ?_<;>intro hc| rfl) <;>conv=>whnf
 all_goals exact⟨⟨_,_⟩,rfl⟩
noncomputable def Oj (a:Int) (b:Int):Int×Int:=(By a b).choose
theorem Ol (a:Int) (b:Int):Ev E 298 [.int .u64 a,.int .u64 b] ⟨.tuple [.int .u64 (Oj a b).1,.int .u64 (Oj a b).2],[]⟩:=(By a b).choose_spec
theorem Bz (a:Int) (b:Int): ∃r:Int×Int,Ev E 288 [vi a,vi b] ⟨.agg [.int .u64 r.1,.int .u64 r.2],[]⟩:=by
 refine bp (Ev.bH rfl rfl rfl ?_)
 conv=>whnf
 repeat' (first| intro g| apply ca (Oe _) | apply ca (Ol _ _) | refine st ?_| refine br ?_ ?_<;>intro hc| rfl) <;>conv=>whnf
 all_goals exact⟨⟨_,_⟩,rfl⟩
noncomputable def Oo (a:Int) (b:Int):Int×Int:=(Bz a b).choose
theorem Oq (a:Int) (b:Int):Ev E 288 [vi a,vi b] ⟨.agg [.int .u64 (Oo a b).1,.int .u64 (Oo a b).2],[]⟩:=(Bz a b).choose_spec
theorem EW (a:Int) (b:Int) (c:Int) (d:Int): ∃r:Int,Ev E 289 [.agg [.int .u64 a,.int .u64 b],.agg [.int .u64 c,.int .u64 d]] ⟨vi r,[]⟩:=by
 refine bp (Ev.bH rfl rfl rfl ?_)
 conv=>whnf
 repeat' (first| intro g| apply ca (Oi _ _) | refine st ?_| refine br ?_ ?_<;>intro hc| rfl) <;>conv=>whnf
 all_goals exact⟨_,rfl⟩
noncomputable def Z3 (a:Int) (b:Int) (c:Int) (d:Int):Int:=(EW a b c d).choose
theorem RX (a:Int) (b:Int) (c:Int) (d:Int):Ev E 289 [.agg [.int .u64 a,.int .u64 b],.agg [.int .u64 c,.int .u64 d]] ⟨vi (Z3 a b c d),[]⟩:=(EW a b c d).choose_spec
theorem yU (a:Int) (b:Int) (c:Int) (d:Int): ∃r:Int,Ev E 277 [vi a,vi b,vi c,vi d] ⟨vi r,[]⟩:=by
 refine bp (Ev.bH rfl rfl rfl ?_)
 conv=>whnf
 repeat' (first| intro g| apply ca (Od _) | apply ca (Oq _ _) | apply ca (RX _ _ _ _) | refine st ?_| refine br ?_ ?_<;>intro hc| rfl) <;>conv=>whnf
 all_goals exact⟨_,rfl⟩
noncomputable def RY (a:Int) (b:Int) (c:Int) (d:Int):Int:=(yU a b c d).choose
theorem KY (a:Int) (b:Int) (c:Int) (d:Int):Ev E 277 [vi a,vi b,vi c,vi d] ⟨vi (RY a b c d),[]⟩:=(yU a b c d).choose_spec
end Go.AM.Dr
namespace Go.AM.Dr
theorem Ot {l:List Int} {g:Nat} {caps:List V} (hc:V.ak caps=true) {p:Int→Bool} (hlen:l.length< 4611686018427387904)
  (hp: ∀x:Int,Ev E g (vi x::caps) ⟨.bool (p x),[]⟩) (hm:bC E g=[]):Ev E 259 [.lit 1 (l.map vi),.fn g caps] ⟨.bool (decide (0≤firstIdx p l)),[]⟩:=by
 exact tG (a:=false) (j:=280) (fun _=>rfl) (fun _=>rfl) hc hlen hp hm
theorem EX {l:List Pt} {g:Nat} {caps:List V} (hc:V.ak caps=true) {p:Pt→Bool} (hlen:l.length< 4611686018427387904)
  (hp: ∀x:Pt,Ev E g (Pt.v x::caps) ⟨.bool (p x),[]⟩) (hm:bC E g=[]):Ev E 187 [.lit 2 (l.map Pt.v),.fn g caps] ⟨.bool (decide (0≤firstIdx p l)),[]⟩:=by
 exact tG (a:=true) (j:=224) (fun _=>rfl) (fun _=>rfl) hc hlen hp hm
theorem KZ {l:List Place} {g:Nat} {caps:List V} (hc:V.ak caps=true) {p:Place→Bool} (hlen:l.length< 4611686018427387904)
  (hp: ∀x:Place,Ev E g (Place.v x::caps) ⟨.bool (p x),[]⟩) (hm:bC E g=[]):Ev E 554 [.lit 7 (l.map Place.v),.fn g caps] ⟨.bool (decide (0≤firstIdx p l)),[]⟩:=by
 exact tG (a:=true) (j:=33) (fun _=>rfl) (fun _=>rfl) hc hlen hp hm
theorem Ou {l:List Edge} {g:Nat} {caps:List V} (hc:V.ak caps=true) {p:Edge→Bool} (hlen:l.length< 4611686018427387904)
  (hp: ∀x:Edge,Ev E g (Edge.v x::caps) ⟨.bool (p x),[]⟩) (hm:bC E g=[]):Ev E 216 [.lit 4 (l.map Edge.v),.fn g caps] ⟨vi (firstIdx p l),[]⟩:=by
 exact qD (a:=true) (fun _=>rfl) (fun _=>rfl) hc hlen hp hm
theorem Ov {l:List aX} {g:Nat} {caps:List V} (hc:V.ak caps=true) {p:aX→Bool} (hlen:l.length< 4611686018427387904)
  (hp: ∀x:aX,Ev E g (aX.v x::caps) ⟨.bool (p x),[]⟩) (hm:bC E g=[]):Ev E 179 [.lit 5 (l.map aX.v),.fn g caps] ⟨vi (firstIdx p l),[]⟩:=by
 exact qD (a:=true) (fun _=>rfl) (fun _=>rfl) hc hlen hp hm
theorem Ow (x n:Int): ∃r:Bool,Ev E 260 [vi x,.eptr (vi n) 0] ⟨.bool r,[]⟩:=by
 refine bp (Ev.bH rfl rfl rfl ?_)
 exact dr
noncomputable def cwF (x n:Int):Bool:=(Ow x n).choose
theorem Z4 (x n:Int):Ev E 260 [vi x,.eptr (vi n) 0] ⟨.bool (cwF x n),[]⟩:=(Ow x n).choose_spec
theorem yV (n:Int) (l:List Int) (hl:l.length< 4611686018427387904): ∃r:Bool,Ev E 227 [vi n,.lit 1 (l.map vi)] ⟨.bool r,[]⟩:=by
 refine bp (Ev.bH rfl rfl rfl ?_)
 have h:=Ot (caps:=[.eptr (vi n) 0]) rfl hl (fun x=>Z4 x n) rfl
 exact dr
theorem Ox (p:Pt): ∃r:Bool,Ev E 276 [p.v] ⟨.bool r,[]⟩:=by
 refine bp (Ev.bH rfl rfl rfl ?_)
 obtain⟨w,hw⟩:=yV 1152921504606846976 [p.x,p.y] (by simp)
 exact dr
noncomputable def cbF (p:Pt):Bool:=(Ox p).choose
theorem Z5 (p:Pt):Ev E 276 [p.v] ⟨.bool (cbF p),[]⟩:=(Ox p).choose_spec
noncomputable def Vx (l:List Pt):Bool:= !decide (0≤firstIdx cbF l)
theorem wC (l:List Pt) (hl:l.length< 4611686018427387904):Ev E 251 [.lit 2 (l.map Pt.v)] ⟨.bool (Vx l),[]⟩:=by
 have h:=EX (caps:=[]) rfl hl Z5 rfl
 refine Ev.aI rfl rfl rfl ?_
 exact dr
theorem wD (p:Pt): ∃r:Bool,Ev E 189 [p.v] ⟨.bool r,[]⟩:=by
 refine bp (Ev.bH rfl rfl rfl ?_)
 obtain⟨w,hw⟩:=yV 16384 [p.x,p.y] (by simp)
 exact dr
noncomputable def Oy (p:Pt):Bool:=(wD p).choose
theorem HI (p:Pt):Ev E 189 [p.v] ⟨.bool (Oy p),[]⟩:=(wD p).choose_spec
theorem Oz (p:Pt): ∃r:Bool,Ev E 220 [p.v] ⟨.bool r,[]⟩:=by
 refine bp (Ev.bH rfl rfl rfl ?_)
 conv=>whnf
 repeat' (first| intro g| apply ca (HI _) | refine st ?_| refine br ?_ ?_<;>intro hc| rfl) <;>conv=>whnf
 all_goals exact⟨_,rfl⟩
noncomputable def crF (p:Pt):Bool:=(Oz p).choose
theorem Z6 (p:Pt):Ev E 220 [p.v] ⟨.bool (crF p),[]⟩:=(Oz p).choose_spec
noncomputable def CT (l:List Pt):Bool:= !decide (0≤firstIdx crF l)
theorem yW (l:List Pt) (hl:l.length< 4611686018427387904):Ev E 181 [.lit 2 (l.map Pt.v)] ⟨.bool (CT l),[]⟩:=by
 have h:=EX (caps:=[]) rfl hl Z6 rfl
 refine Ev.aI rfl rfl rfl ?_
 exact dr
theorem sg (a b:Pt):Ev E 37 [a.v,b.v] ⟨(Pt.mk (jV (a.x - b.x)) (jV (a.y - b.y))).v,[]⟩:=by
 refine Ev.aI rfl rfl rfl ?_
 exact dr
theorem EY (a b p:Pt): ∃r:Int,Ev E 252 [a.v,b.v,p.v] ⟨vi r,[]⟩:=by
 refine bp (Ev.bH rfl rfl rfl ?_)
 have hb:Ev E 251 [.lit 2 [a.v,b.v,p.v]] ⟨.bool (Vx [a,b,p]),[]⟩:=wC [a,b,p] (by simp)
 conv=>whnf
 repeat' (first| intro g| apply ca hb| apply ca (sg b a) | apply ca (sg p a) | apply ca (KY _ _ _ _) | refine st ?_| refine br ?_ ?_<;>intro hc| rfl) <;>conv=>whnf
 all_goals exact⟨_,rfl⟩
noncomputable def Z7 (a b p:Pt):Int:=(EY a b p).choose
theorem tU (a b p:Pt):Ev E 252 [a.v,b.v,p.v] ⟨vi (Z7 a b p),[]⟩:=(EY a b p).choose_spec
def aee (a b:Pt):Int:=NA (tI a.x b.x) (tI a.y b.y)
theorem pE (a b:Pt):Ev E 254 [a.v,b.v] ⟨vi (aee a b),[]⟩:=by
 refine Ev.aI rfl rfl rfl ?_
 conv=>whnf
 repeat' (first| intro g| apply ca (eD _ _) | apply ca (Hk _ _) | refine st ?_| refine br ?_ ?_<;>intro hc| rfl) <;>conv=>whnf
theorem EZ (p q:Pt): ∃r:Pt,Ev E 255 [.lit 2 [p.v,q.v],.fn 254 []] ⟨r.v,[]⟩:=by
 refine bp (Ev.bH rfl rfl rfl ?_)
 have hm:bC E 254=[]:=rfl
 conv=>whnf
 repeat' (first| intro g| refine st ?_| refine br ?_ ?_<;>intro hc| rfl) <;>conv=>whnf
 rename_i g1
 refine aO.by (fun ((i,r):Nat×Pt)=> ⟨[(0,.lit 2 [p.v,q.v]),(1,.fn 254 []),(4,.ptr 80 g1 0 0),(5,.ptr 96 g 0 0),(6,ar (i+1))],[(80,⟨g1,2,false,false,some [.agg [vi 0,vi 0]]⟩),(96,⟨g,2,false,false,some [r.v]⟩)]⟩)
  (fun (i,_)=>i≤1) (fun (i,_)=>1 - i) (0,p) su (by simp) ?_
 rintro⟨i,r⟩ hi
 try dsimp only at hi
 rcases(by omega:i=0∨i=1) with rfl| rfl
 ·conv=>whnf
  repeat' (first| intro g| refine sf (pE _ _) ?_| refine st ?_| refine br ?_ ?_<;>intro hc| rfl) <;>conv=>whnf
  ·exact aK.mk (1,q) om (by simp) su
  ·exact aK.mk (1,r) om (by simp) su
 ·conv=>whnf
  repeat' (first| intro g| refine st ?_| refine br ?_ ?_<;>intro hc| rfl) <;>conv=>whnf
  exact⟨_,rfl⟩
noncomputable def Z8 (p q:Pt):Pt:=(EZ p q).choose
theorem RZ (p q:Pt):Ev E 255 [.lit 2 [p.v,q.v],.fn 254 []] ⟨(Z8 p q).v,[]⟩:=(EZ p q).choose_spec
theorem E0 (p q:Pt): ∃r:Pt,Ev E 175 [.lit 2 [p.v,q.v],.fn 254 []] ⟨r.v,[]⟩:=by
 refine bp (Ev.bH rfl rfl rfl ?_)
 have hm:bC E 254=[]:=rfl
 conv=>whnf
 repeat' (first| intro g| refine st ?_| refine br ?_ ?_<;>intro hc| rfl) <;>conv=>whnf
 rename_i g1
 refine aO.by (fun ((i,r):Nat×Pt)=> ⟨[(0,.lit 2 [p.v,q.v]),(1,.fn 254 []),(4,.ptr 80 g1 0 0),(5,.ptr 96 g 0 0),(6,ar (i+1))],[(80,⟨g1,2,false,false,some [.agg [vi 0,vi 0]]⟩),(96,⟨g,2,false,false,some [r.v]⟩)]⟩)
  (fun (i,_)=>i≤1) (fun (i,_)=>1 - i) (0,p) su (by simp) ?_
 rintro⟨i,r⟩ hi
 try dsimp only at hi
 rcases(by omega:i=0∨i=1) with rfl| rfl
 ·conv=>whnf
  repeat' (first| intro g| refine sf (pE _ _) ?_| refine st ?_| refine br ?_ ?_<;>intro hc| rfl) <;>conv=>whnf
  ·exact aK.mk (1,q) om (by simp) su
  ·exact aK.mk (1,r) om (by simp) su
 ·conv=>whnf
  repeat' (first| intro g| refine st ?_| refine br ?_ ?_<;>intro hc| rfl) <;>conv=>whnf
  exact⟨_,rfl⟩
noncomputable def Z9 (p q:Pt):Pt:=(E0 p q).choose
theorem R0 (p q:Pt):Ev E 175 [.lit 2 [p.v,q.v],.fn 254 []] ⟨(Z9 p q).v,[]⟩:=(E0 p q).choose_spec
end Go.AM.Dr
