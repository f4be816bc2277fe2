/- Texts of the proof. -/
import Derived.Test.YtdldmebldkgcnaaGreatGac
import Derived.KernelRfl
set_option maxRecDepth 20000
set_option maxHeartbeats 4000000
set_option linter.unusedSimpArgs false
set_option linter.unusedVariables false
namespace Go.AM
theorem Va {l:List Way} {g:Nat} {caps:List V} (hc:V.al caps=true) {p:Way→Bool} (hlen:l.length< 4611686018427387904)
  (hp: ∀x:Way,Ev E g (Way.v x::caps) ⟨.bool (p x),[]⟩) (hm:bz E g=[]):Ev E 180 [.lit 8 (l.map Way.v),.fn g caps] ⟨vi (firstIdx p l),[]⟩:=by
 exact oZ (a:=true) (fun _=>rfl) (fun _=>rfl) hc hlen hp hm
theorem ND (w:Way) (id:Int):Ev E 693 [w.v,.eptr (vi id) 0] ⟨.bool (decide (w.id=id)),[]⟩:=by
 refine Ev.aD rfl rfl rfl ?_
 exact aiN
def pb (ws:List Way) (id:Int):Int:=firstIdx (fun w=>decide (w.id=id)) ws
theorem qw {m:aI} (h:m.ways.length< 1000000) (id:Int):Ev E 683 [m.v,vi id] ⟨vi (pb m.ways id),[]⟩:=by
 have hi:=Va (l:=m.ways) (caps:=[.eptr (vi id) 0]) rfl abV (fun x=>ND x id) rfl
 refine Ev.aD rfl rfl rfl ?_
 conv=>whnf
 repeat' (first| intro g| apply ca hi| refine st ?_| refine br ?_ ?_<;>intro hc| rfl) <;>conv=>whnf
 all_goals rfl
def acw:V:= .agg [vi 0,.nils,vi 0,.str [],.str [],.bool false,vi 0,vi 0]
theorem Kb {l:List Way} {i:Nat} (hi:i<l.length) (h:l.length< 1000000):Ev E 699 [.msl 8 (l.map Way.v) 0 l.length,av i,vi (IntKind.i64.wrap ((i:Int)+1))] ⟨.sl 0 0 0 (l.length - 1),[(0,(l.eraseIdx i).map Way.v++[acw])]⟩:=by
 have hw:IntKind.i64.wrap ((i:Int)+1)=((i+1:Nat):Int):=wt
 rw[hw]
 refine Ev.aD rfl rfl rfl ?_
 have E0:aG (l.map Way.v) (0+((i+1:Nat):Int).toNat) (l.length - ((i+1:Nat):Int).toNat)=(l.drop (i+1)).map Way.v:=by
  rw[gG]
  congr 1
  rw[List.take_of_length_le abW]
  simp
 conv=>whnf
 repeat' (first| intro g| refine nd (by first| ((and_intros<;>first| rfl| exact bj (bj (Way.aN _) (Way.aN _)) (bE rfl) | exact eH (bj (bj (Way.aN _) (Way.aN _)) (bE rfl)) | (simp only[overwrite,aG,List.length_map,List.length_append,ai5,ajc,ajg,aju];omega) | omega)) | fail) ?_| refine wi E0 ?_| refine st ?_| refine br ?_ ?_<;>intro hc| rfl) <;>conv=>whnf
 obtain⟨A,x,B,rfl,hA⟩: ∃A x B,l=A++x::B∧A.length=i:=⟨l.take i,l[i],l.drop (i+1),abW,by simp;omega⟩
 have e1: (A++x::B).drop (i+1)=B:=by
  rw[←hA];simp[akz]
 have e2: (A++x::B).eraseIdx i=A++B:=by
  rw[←hA];simp[akk]
 have e3: ((i:Int).toNat - 0+((B).map Way.v).length)=A.length+B.length:=by simp;omega
 rw[e1,e2,e3]
 have e4: ((A.length+B.length:Nat):Int).toNat=A.length+B.length:=abV
 have e5: (((A++x::B).length:Nat):Int).toNat - (A.length+B.length)=1:=by simp;omega
 have e6: (A++x::B).length - 1=A.length+B.length:=abW
 rw[e4,e5,e6]
 subst hA
 show (⟨V.sl 0 0 0 _,[(0,_)]⟩:eZ)=_
 congr 3
 simp[overwrite,List.take_append,akz]
 rw[List.take_of_length_le abW,ai7 (by simp;omega),ai7 (by simp;omega),ai7 (by simp;omega),ai7 (by simp;omega)]
 rfl
theorem ym {l:List Way} {i:Nat} (hi:i<l.length) (h:l.length< 1000000):Ev E 690 [.lit 8 (l.map Way.v),av i] ⟨.own 8 ((l.eraseIdx i).map Way.v),[]⟩:=by
 have h1:=rT l abV
 have h2:=Kb hi h
 have hlen:l.length - 1=(l.eraseIdx i).length:=by rw[ajV];simp[hi]
 have NF:Ev E 699 [.msl 8 (l.map Way.v) 0 (l.map Way.v).length,av i,vi (IntKind.i64.wrap ((i:Int)+1))] ⟨.sl 0 0 0 (l.length - 1),[(0,(l.eraseIdx i).map Way.v++[acw])]⟩:=by
  rw[List.length_map];exact h2
 refine Ev.aD rfl rfl rfl ?_
 conv=>whnf
 repeat' (first| intro g| refine wi (rP hlen) ?_| apply ca h1| apply ca NF| refine st ?_| refine br ?_ ?_<;>intro hc| rfl) <;>conv=>whnf
end Go.AM
namespace Go.AM
theorem kB {E:Env} {r:Nat} {g:Nat} {args:List V} {v v':V} {S:SS} {Q:KK} (hm:bz E g=[]) (hp:V.al args=true) (he:Ev E g args ⟨v,[]⟩) (hv: ∀ (r:Nat) (k:V→bF),fA false r [] v k=k v') (k:Q v' S [] []):fy E (lr E r false g args) S Q:=by
 have key: ∀ (fg:List V) (i:Nat) (kk:List V→List Nat→List ed→bF),V.al fg=true→dL (r+8) fg [] i kk=kk fg [] []:=by
  intro fg
  induction fg with
  | nil=>intro i kk _;rfl
  | cons a fg ih=>
    intro i kk h
    simp only[V.al,Bool.and_eq_true] at h
    simp only[dL,fZ,h.1,cond_true,ajx]
    rw[ih (i+1) _ h.2]
 unfold lr
 rw[hm,key args 0 _ hp]
 refine⟨rfl,⟨⟨v,[]⟩,he,?_⟩⟩
 simp only[jl,hv]
 exact k
def IsL (sz:Nat) (xs:List V) (v:V):Prop:=v= .own sz xs∨v= .lit sz xs
def PT (v v':V):Prop:= ∀ (r:Nat) (k:V→bF),fA false r [] v k=k v'
theorem YK {m:aI} {c:Int} {e f w p:V} (h1:IsL 4 (m.aB.map Edge.v) e) (h2:IsL 5 (m.an.map aW.v) f) (h3:IsL 8 (m.ways.map Way.v) w) (h4:IsL 7 (m.az.map Place.v) p):PT (.tuple [.agg [e,f,w,p],vi c]) (.tuple [m.v,vi c]):=by
 rcases h1 with rfl| rfl<;>rcases h2 with rfl| rfl<;>rcases h3 with rfl| rfl<;>rcases h4 with rfl| rfl
 all_goals exact fun _ _=>rfl
end Go.AM
namespace Go.AM
theorem YL (i:Int) (w:Way):Ev E 703 [vi i,w.v] ⟨({w with id:=i}:Way).v,[]⟩:=by
 refine Ev.aD rfl rfl rfl ?_
 exact aiN
theorem YM (i:Int) (w:Way) (h:w.line.length< 1000000): ∃v,Ev E 691 [vi i,w.v] ⟨v,[]⟩∧PT v w.v:=by
 have hc:=eR w.line h
 suffices hh: ∃res,Ev E 691 [vi i,w.v] res∧ ∃v,PT v w.v∧res=⟨v,[]⟩ by
  obtain⟨_,h1,v,h2,rfl⟩:=hh
  exact⟨v,h1,h2⟩
 refine Ev.bD rfl rfl rfl ?_
 conv=>whnf
 repeat' (first| intro g| apply ca hc| refine st ?_| refine br ?_ ?_<;>intro hc| rfl) <;>conv=>whnf
 exact⟨_,fun _ _=>rfl,rfl⟩
theorem YN (i:Int) (e:Edge) (h:e.line.length< 1000000): ∃v,Ev E 688 [vi i,e.v] ⟨v,[]⟩∧PT v e.v:=by
 have hc:=eR e.line h
 suffices hh: ∃res,Ev E 688 [vi i,e.v] res∧ ∃v,PT v e.v∧res=⟨v,[]⟩ by
  obtain⟨_,h1,v,h2,rfl⟩:=hh
  exact⟨v,h1,h2⟩
 refine Ev.bD rfl rfl rfl ?_
 conv=>whnf
 repeat' (first| intro g| apply ca hc| refine st ?_| refine br ?_ ?_<;>intro hc| rfl) <;>conv=>whnf
 exact⟨_,fun _ _=>rfl,rfl⟩
theorem G5 {f:Nat} (hm:bz E f=[]) {P:Way→Prop} {ws:List Way} (hn:ws.length< 1000000) (hF: ∀ (i:Int) w,w ∈ ws→ ∃v w',Ev E f [vi i,w.v] ⟨v,[]⟩∧PT v (Way.v w')∧P w'):
  ∃L:List Way,L.length=ws.length∧(∀w ∈ L,P w)∧Ev E 689 [.lit 8 (ws.map Way.v),.fn f []] ⟨.own 8 (L.map Way.v),[]⟩:=by
 suffices hh: ∃res,Ev E 689 [.lit 8 (ws.map Way.v),.fn f []] res∧ ∃L:List Way,L.length=ws.length∧(∀w ∈ L,P w)∧res=⟨.own 8 (L.map Way.v),[]⟩ by
  obtain⟨_,h1,L,h2,h3,rfl⟩:=hh
  exact⟨L,h2,h3,h1⟩
 have hp: ∀ (i:Int) (w:Way),V.al [vi i,w.v]=true:=fun _ _=>rfl
 refine Ev.bD rfl rfl rfl ?_
 conv=>whnf
 repeat' (first| intro g| refine st ?_| refine br ?_ ?_<;>intro hc| rfl) <;>conv=>whnf
 refine aL.by (fun ((i,L,g):Nat×List Way×Nat)=> ⟨[(1,.fn f []),(5,.sl 97 g 0 L.length),(8,.lit 8 (ws.map Way.v)),(9,av ws.length),(10,av i)],[(97,⟨g,8,true,false,some (L.map Way.v)⟩)]⟩)
  (fun (i,L,_)=>i≤ws.length∧L.length=i∧ ∀w ∈ L,P w) (fun (i,_)=>ws.length - i) (0,[],g) su ⟨abW,rfl,abW⟩ ?_
 clear g
 rintro⟨i,L,gl⟩ ⟨hi,hL,hP⟩
 try dsimp only at hi hL hP
 by_cases bl:i<ws.length
 ·obtain⟨w,hx⟩: ∃x,ws[i]? =some x:=⟨_,aH bl⟩
  obtain⟨v,w',h1,h2,h3⟩:=hF i w (List.mem_of_getElem? hx)
  have ET:=hp i w
  conv=>whnf
  repeat' (first| refine kB hm ET h1 h2 ?_| intro g| refine wi (aq hx rfl) ?_| refine st ?_| refine br ?_ ?_<;>intro hc| rfl) <;>conv=>whnf
  refine aK.mk (i+1,L++[w'],g) om ⟨abV,by simp[hL],fun y hy=> ?_⟩ su
  rcases ai6.1 hy with hy| hy
  ·exact hP y hy
  ·rw[ajC.1 hy];exact h3
 ·conv=>whnf
  repeat' (first| intro g| refine st ?_| refine br ?_ ?_<;>intro hc| rfl) <;>conv=>whnf
  exact⟨L,abV,hP,rfl⟩
theorem Q8 {f:Nat} (hm:bz E f=[]) {P:Edge→Prop} {ws:List Edge} (hn:ws.length< 1000000) (hF: ∀ (i:Int) w,w ∈ ws→ ∃v w',Ev E f [vi i,w.v] ⟨v,[]⟩∧PT v (Edge.v w')∧P w'):
  ∃L:List Edge,L.length=ws.length∧(∀w ∈ L,P w)∧Ev E 687 [.lit 4 (ws.map Edge.v),.fn f []] ⟨.own 4 (L.map Edge.v),[]⟩:=by
 suffices hh: ∃res,Ev E 687 [.lit 4 (ws.map Edge.v),.fn f []] res∧ ∃L:List Edge,L.length=ws.length∧(∀w ∈ L,P w)∧res=⟨.own 4 (L.map Edge.v),[]⟩ by
  obtain⟨_,h1,L,h2,h3,rfl⟩:=hh
  exact⟨L,h2,h3,h1⟩
 have hp: ∀ (i:Int) (w:Edge),V.al [vi i,w.v]=true:=fun _ _=>rfl
 refine Ev.bD rfl rfl rfl ?_
 conv=>whnf
 repeat' (first| intro g| refine st ?_| refine br ?_ ?_<;>intro hc| rfl) <;>conv=>whnf
 refine aL.by (fun ((i,L,g):Nat×List Edge×Nat)=> ⟨[(1,.fn f []),(5,.sl 97 g 0 L.length),(8,.lit 4 (ws.map Edge.v)),(9,av ws.length),(10,av i)],[(97,⟨g,4,true,false,some (L.map Edge.v)⟩)]⟩)
  (fun (i,L,_)=>i≤ws.length∧L.length=i∧ ∀w ∈ L,P w) (fun (i,_)=>ws.length - i) (0,[],g) su ⟨abW,rfl,abW⟩ ?_
 clear g
 rintro⟨i,L,gl⟩ ⟨hi,hL,hP⟩
 try dsimp only at hi hL hP
 by_cases bl:i<ws.length
 ·obtain⟨w,hx⟩: ∃x,ws[i]? =some x:=⟨_,aH bl⟩
  obtain⟨v,w',h1,h2,h3⟩:=hF i w (List.mem_of_getElem? hx)
  have ET:=hp i w
  conv=>whnf
  repeat' (first| refine kB hm ET h1 h2 ?_| intro g| refine wi (aq hx rfl) ?_| refine st ?_| refine br ?_ ?_<;>intro hc| rfl) <;>conv=>whnf
  refine aK.mk (i+1,L++[w'],g) om ⟨abV,by simp[hL],fun y hy=> ?_⟩ su
  rcases ai6.1 hy with hy| hy
  ·exact hP y hy
  ·rw[ajC.1 hy];exact h3
 ·conv=>whnf
  repeat' (first| intro g| refine st ?_| refine br ?_ ?_<;>intro hc| rfl) <;>conv=>whnf
  exact⟨L,abV,hP,rfl⟩
end Go.AM
namespace Go.AM
def MI (es:List V):Prop:= ∀e ∈ es,∃k j:Int,e= .tuple [vi k,vi j]
theorem vl (a b:Int):ya (vi a) (vi b)=some (a==b):=by simp[ya]
theorem E5 (k j:Int): ∀ {es:List V},MI es→ ∃es',jn (vi k) (vi j) es=some es'∧MI es'
 | [],_=> ⟨_,rfl,fun e he=> ⟨k,j,by simpa using he⟩⟩
 | e::es,h=>by
   obtain⟨k',j',rfl⟩:=h e abW
   cases hk: (k==k') with
   | true=>
     refine⟨_,by simp only[jn,vl,hk];rfl,fun e' lD=> ?_⟩
     rcases ai0.1 lD with rfl| lD
     ·exact⟨k,j,rfl⟩
     ·exact h e' (by simp[lD])
   | false=>
     obtain⟨es',h1,h2⟩:=E5 k j (es:=es) (fun x hx=>h x (by simp[hx]))
     refine⟨_,by simp only[jn,vl,hk,h1];rfl,fun e' lD=> ?_⟩
     rcases ai0.1 lD with rfl| lD
     ·exact⟨k',j',rfl⟩
     ·exact h2 e' lD
theorem E6 (k:Int): ∀ {es:List V},MI es→cp (vi k) es=some none∨ ∃j:Int,cp (vi k) es=some (some (vi j))
 | [],_=> .inl rfl
 | e::es,h=>by
   obtain⟨k',j',rfl⟩:=h e abW
   cases hk: (k==k') with
   | true=>exact .inr ⟨j',by simp only[cp,vl,hk]⟩
   | false=>
     have:=E6 k (es:=es) (fun x hx=>h x (by simp[hx]))
     simpa only[cp,vl,hk] using this
theorem Kc (k:Int) {es:List V} (h:MI es): ∃j:Int,cW false (.int .i64 0) es (vi k)= .done (vi j):=by
 rcases E6 k h with e| ⟨j,e⟩
 ·exact⟨0,by simp only[cW,e];rfl⟩
 ·exact⟨j,by simp only[cW,e];rfl⟩
theorem Vb (k:Int) {es:List V} (h:MI es): ∃ (j:Int) (b:Bool),cW true (.int .i64 0) es (vi k)= .done (.tuple [vi j,.bool b]):=by
 rcases E6 k h with e| ⟨j,e⟩
 ·exact⟨0,false,by simp only[cW,e];rfl⟩
 ·exact⟨j,true,by simp only[cW,e];rfl⟩
theorem zu: ∀ {es:List V},MI es→V.al es=true
 | [],_=>rfl
 | e::es,h=>by
   obtain⟨k,j,rfl⟩:=h e abW
   have:=zu (es:=es) (fun x hx=>h x (by simp[hx]))
   simp only[V.al,this,ajy];rfl
theorem Q9: ∀ {es:List V},MI es→es.all V.isTuple=true
 | [],_=>rfl
 | e::es,h=>by
   obtain⟨k,j,rfl⟩:=h e abW
   have:=Q9 (es:=es) (fun x hx=>h x (by simp[hx]))
   simp only[aja,this,ajy];rfl
def Az (w:Way):Prop:=0 <w.line.length∧w.line.length< 1000
theorem AA {ws:List Way} (hn:ws.length≤12) (hl: ∀w ∈ ws,Az w): ∃es,MI es∧Ev E 698 [.lit 8 (ws.map Way.v)] ⟨.mlit es,[]⟩:=by
 suffices hh: ∃res,Ev E 698 [.lit 8 (ws.map Way.v)] res∧ ∃es,MI es∧res=⟨.mlit es,[]⟩ by
  obtain⟨_,h1,es,h2,rfl⟩:=hh
  exact⟨es,h2,h1⟩
 obtain⟨L,hL,hLo,h1⟩:=G5 (f:=703) rfl (P:=Az) (ws:=ws) abV (fun i w hw=> ⟨_,_,YL i w,fun _ _=>rfl,hl w hw⟩)
 obtain⟨_,h2,gs,PU,Kd,rfl⟩:=NA (ws:=L) abV hLo
 have hgp: ∀ (i:Nat) (g:List Int),gs[i]? =some g→g.length≤12:=fun i g h=>Kd g (List.mem_of_getElem? h)
 refine Ev.bD rfl rfl rfl ?_
 conv=>whnf
 repeat' (first| intro g| apply ca h1| apply ca h2| refine st ?_| refine br ?_ ?_<;>intro hc| rfl) <;>conv=>whnf
 obtain⟨gm,Cz⟩: ∃x,x=g:=⟨_,rfl⟩
 rw[←Cz];clear Cz g
 refine aL.by (fun ((i,es):Nat×List V)=> ⟨[(3,.mp 160 gm),(13,.lit 1 (gs.map fun g=>V.lit 1 (g.map vi))),(14,av gs.length),(15,av i)],[(160,⟨gm,0,false,false,some es⟩)]⟩)
  (fun (i,es)=>i≤gs.length∧MI es) (fun (i,_)=>gs.length - i) (0,[]) su ⟨abW,by simp[MI]⟩ ?_
 rintro⟨i,es⟩ ⟨hi,he⟩
 try dsimp only at hi he
 by_cases bl:i<gs.length
 ·obtain⟨x,hx⟩: ∃x,gs[i]? =some x:=⟨_,aH bl⟩
  have Uz:=hgp i x hx
  conv=>whnf
  repeat' (first| intro g| refine wi (aq hx rfl) ?_| refine st ?_| refine br ?_ ?_<;>intro hc| rfl) <;>conv=>whnf
  refine aL.by (fun ((k,es):Nat×List V)=> ⟨[(3,.mp 160 gm),(5,av i),(13,.lit 1 (gs.map fun g=>V.lit 1 (g.map vi))),(14,av gs.length),(15,av i),(20,.lit 1 (x.map vi)),(21,av x.length),(22,av k)],[(160,⟨gm,0,false,false,some es⟩)]⟩)
   (fun (k,es)=>k≤x.length∧MI es) (fun (k,_)=>x.length - k) (0,es) su ⟨abW,he⟩ ?_
  clear he
  rintro⟨k,Ct⟩ ⟨hk,he⟩
  try dsimp only at hk he
  by_cases Rb:k<x.length
  ·obtain⟨y,hy⟩: ∃z,x[k]? =some z:=⟨_,aH Rb⟩
   obtain⟨es',hp,lD⟩:=E5 y (i:Int) he
   conv=>whnf
   repeat' (first| intro g| refine wi (aq hy rfl) ?_| refine wi hp ?_| refine st ?_| refine br ?_ ?_<;>intro hc| rfl) <;>conv=>whnf
   exact aK.mk (k+1,es') om ⟨abV,lD⟩ su
  ·conv=>whnf
   repeat' (first| intro g| refine st ?_| refine br ?_ ?_<;>intro hc| rfl) <;>conv=>whnf
   exact aK.mk (i+1,Ct) om ⟨abV,he⟩ su
 ·have hp:=zu he
  have ht:=Q9 he
  have hpi: (V.mlit es).aw=true:=by simp only[V.aw];exact hp
  conv=>whnf
  repeat' (first| intro g| refine st ?_| refine br ?_ ?_<;>intro hc| rfl) <;>conv=>whnf
  simp only[hpi]
  conv=>whnf
  repeat' (first| intro g| refine st ?_| refine br ?_ ?_<;>intro hc| rfl) <;>conv=>whnf
  exact⟨es,he,rfl⟩
theorem G6 {ws:List Way} {n:Nat} (kj:n<ws.length) (hn:ws.length≤12) (hl: ∀w ∈ ws,Az w): ∃b:Bool,Ev E 685 [.lit 8 (ws.map Way.v),av n] ⟨.bool b,[]⟩:=by
 obtain⟨ea,ma,h1⟩:=AA hn hl
 have h2:=ym kj abV
 have hlen: (ws.eraseIdx n).length=ws.length - 1:=by rw[ajV];simp[kj]
 obtain⟨eb,mb,h3⟩:=AA (ws:=ws.eraseIdx n) abV (fun w hw=>hl w (List.mem_of_mem_eraseIdx hw))
 obtain⟨os,hos⟩: ∃x,ws.eraseIdx n=x:=⟨_,rfl⟩
 rw[hos] at h2 h3
 have p1:=zu ma
 have p2:=zu mb
 have q1: (V.mlit ea).aw=true:=by simp only[V.aw];exact p1
 have q2: (V.mlit eb).aw=true:=by simp only[V.aw];exact p2
 have hm:bz E 698=[]:=rfl
 have hp: ∀l:List V,V.al [.lit 8 l]=true:=fun _=>rfl
 refine a8 (Ev.bD rfl rfl rfl ?_)
 conv=>whnf
 repeat' (first| (first| refine fB hm (hp _) h1 q1 ?_| refine fB hm (hp _) h3 q2 ?_) | intro g| apply ca h2| refine st ?_| refine br ?_ ?_<;>intro hc| rfl) <;>conv=>whnf
 obtain⟨gm,Cz⟩: ∃x,x=g:=⟨_,rfl⟩
 rw[←Cz];clear Cz g
 refine aL.by (fun ((i,es):Nat×List V)=> ⟨[(1,av n),(5,.mlit ea),(6,.mlit eb),(7,.mp 304 gm),(20,av ws.length),(21,av i)],[(304,⟨gm,0,false,false,some es⟩)]⟩)
  (fun (i,es)=>i≤ws.length∧MI es) (fun (i,_)=>ws.length - i) (0,[]) su ⟨abW,by simp[MI]⟩ ?_
 rintro⟨i,es⟩ ⟨hi,he⟩
 try dsimp only at hi he
 by_cases bl:i<ws.length
 case neg=>
  conv=>whnf
  repeat' (first| intro g| refine st ?_| refine br ?_ ?_<;>intro hc| rfl) <;>conv=>whnf
  exact⟨_,rfl⟩
 obtain⟨j1,ga⟩:=Kc (i:Int) ma
 obtain⟨j2,b2,gb⟩:=Vb j1 he
 obtain⟨l1,gl1⟩:=Kc (i:Int) mb
 obtain⟨l2,gl2⟩:=Kc (IntKind.i64.wrap ((i:Int) - 1)) mb
 obtain⟨e1,ET,YO⟩:=E5 j1 l1 he
 obtain⟨e2,JS,UA⟩:=E5 j1 l2 he
 cases b2
 ·conv=>whnf
  repeat' (first| intro g| refine wi ga ?_| refine wi gb ?_| refine wi gl1 ?_| refine wi gl2 ?_| refine wi ET ?_| refine wi JS ?_| refine st ?_| refine br ?_ ?_<;>intro hc| rfl) <;>conv=>whnf
  all_goals first| exact⟨_,rfl⟩ | (refine aK.mk (i+1,e1) om ⟨abV,YO⟩ ?_;exact su;done) | (refine aK.mk (i+1,e2) om ⟨abV,UA⟩ ?_;exact su;done) | (refine aK.mk (i+1,es) om ⟨abV,he⟩ ?_;exact su;done)
 ·conv=>whnf
  repeat' (first| intro g| refine wi ga ?_| refine wi gb ?_| refine wi gl1 ?_| refine wi gl2 ?_| refine wi ET ?_| refine wi JS ?_| refine st ?_| refine br ?_ ?_<;>intro hc| rfl) <;>conv=>whnf
  all_goals first| exact⟨_,rfl⟩ | (refine aK.mk (i+1,e1) om ⟨abV,YO⟩ ?_;exact su;done) | (refine aK.mk (i+1,e2) om ⟨abV,UA⟩ ?_;exact su;done) | (refine aK.mk (i+1,es) om ⟨abV,he⟩ ?_;exact su;done)
end Go.AM
namespace Go.AM
structure G7 where
 x:Int
 y:Int
 l:Int
def G7.v (s:G7):V:= .agg [vi s.x,vi s.y,vi s.l]
theorem Rc {l:List G7} {g:Nat} {caps:List V} (hc:V.al caps=true) {p:G7→Bool} (hlen:l.length< 4611686018427387904)
  (hp: ∀x:G7,Ev E g (G7.v x::caps) ⟨.bool (p x),[]⟩) (hm:bz E g=[]):Ev E 694 [.lit 3 (l.map G7.v),.fn g caps] ⟨.bool (decide (0≤firstIdx p l)),[]⟩:=by
 exact qg (a:=true) (j:=701) (fun _=>rfl) (fun _=>rfl) hc hlen hp hm
theorem G8 (l:List G7) (hlen:l.length< 4611686018427387904) (s:G7): ∃r:Int,Ev E 702 [.lit 3 (l.map G7.v),s.v] ⟨vi r,[]⟩:=a8 (g:=vi) (Ev.bD rfl rfl rfl (by
 conv=>whnf
 repeat' (first| intro g| refine st ?_| refine br ?_ ?_<;>intro hc| rfl) <;>conv=>whnf
 refine aL.by (fun i:Nat=> ⟨[(0,.lit 3 (l.map G7.v)),(3,.ptr 64 g 0 0),(7,av l.length),(8,av i)],[(64,⟨g,3,false,false,some [s.v]⟩)]⟩) (fun i=>i≤l.length) (fun i=>l.length - i) 0 su abV ?_
 intro i hi
 by_cases bl:i<l.length
 ·obtain⟨x,hx⟩: ∃x,l[i]? =some x:=⟨_,aH bl⟩
  conv=>whnf
  repeat' (first| intro g| refine wi (aq hx rfl) ?_| refine st ?_| refine br ?_ ?_<;>intro hc| rfl) <;>conv=>whnf
  ·exact⟨_,rfl⟩
  ·exact aK.mk (i+1) om abV su
 ·conv=>whnf
  repeat' (first| intro g| refine st ?_| refine br ?_ ?_<;>intro hc| rfl) <;>conv=>whnf
  exact⟨_,rfl⟩))
theorem G9 (l:List G7) (hlen:l.length< 4611686018427387904) (s:G7): ∃r:Bool,Ev E 697 [.lit 3 (l.map G7.v),s.v] ⟨.bool r,[]⟩:=by
 obtain⟨r,h⟩:=G8 l hlen s
 refine a8 (Ev.bD rfl rfl rfl ?_)
 conv=>whnf
 repeat' (first| intro g| apply ca h| refine st ?_| refine br ?_ ?_<;>intro hc| rfl) <;>conv=>whnf
 exact⟨_,rfl⟩
def Ha (w:Way):List G7:=match w.line[0]?,w.line[w.line.length - 1]? with
 | some p,some q=> [⟨p.x,p.y,w.level⟩,⟨q.x,q.y,w.level⟩]
 | _,_=> []
theorem Dp {w:Way} (h:Az w):Ev E 695 [w.v] ⟨.own 3 ((Ha w).map G7.v),[]⟩:=by
 obtain⟨p,q,hp⟩:=WLn.ex h.1 h.2
 have:=As hp
 unfold Ha
 rw[hp.first,hp.last]
 exact this
theorem Hb (w:Way): (Ha w).length< 1000:=by
 unfold Ha
 split<;>simp
theorem Hc {u:Way} (h:Az u) (s:G7): ∃r:Bool,Ev E 696 [s.v,.eptr u.v 0] ⟨.bool r,[]⟩:=by
 have h1:=Dp h
 obtain⟨r,h2⟩:=G9 (Ha u) (by have:=Hb u;omega) s
 generalize Ha u=l at h1 h2
 refine a8 (Ev.bD rfl rfl rfl ?_)
 conv=>whnf
 repeat' (first| intro g| apply ca h1| apply ca h2| refine st ?_| refine br ?_ ?_<;>intro hc| rfl) <;>conv=>whnf
 exact⟨_,rfl⟩
theorem Ke {w u:Way} (hw:Az w) (hu:Az u): ∃r:Bool,Ev E 684 [w.v,u.v] ⟨.bool r,[]⟩:=by
 have h1:=Dp hw
 obtain⟨p,hp⟩:=sk1 (Hc hu)
 have h2:=Rc (l:=Ha w) (caps:=[.eptr u.v 0]) rfl (by have:=Hb w;omega) hp rfl
 generalize Ha w=l at h1 h2
 refine a8 (Ev.bD rfl rfl rfl ?_)
 conv=>whnf
 repeat' (first| intro g| apply ca h1| apply ca h2| refine st ?_| refine br ?_ ?_<;>intro hc| rfl) <;>conv=>whnf
 exact⟨_,rfl⟩
end Go.AM
namespace Go.AM
def TI (es:List V):Prop:= ∀e ∈ es,∃ (d:Int) (n:Ah) (c:Int),e= .tuple [.agg [vi d,.str n],vi c]
theorem Kf: ∀ {es:List V},TI es→es.all (GB [1,2])=true
 | [],_=>rfl
 | e::es,h=>by
   obtain⟨d,n,c,rfl⟩:=h e abW
   have:=Kf (es:=es) (fun x hx=>h x (by simp[hx]))
   simp only[aja,this,ajy]
   rfl
theorem Re (d d':Int) (n n':Ah):du [1,2] (.agg [vi d,.str n]) (.agg [vi d',.str n'])=some ((d==d') &&decide (n=n')):=by
 simp[du,cX,Jj]
theorem Hd (d:Int) (n:Ah): ∀ {es:List V},TI es→ ∃c:Int,eG [1,2] (.agg [vi d,.str n]) es=vi c
 | [],_=> ⟨0,rfl⟩
 | e::es,h=>by
   obtain⟨d',n',c,rfl⟩:=h e abW
   obtain⟨c',EC⟩:=Hd d n (es:=es) (fun x hx=>h x (by simp[hx]))
   simp only[eG,Re]
   cases hb: ((d==d') &&decide (n=n')) with
   | true=>exact⟨c,rfl⟩
   | false=>exact⟨c',EC⟩
theorem Rf (d:Int) (n:Ah): ∀ {es:List V} (i:Nat),TI es→eo [1,2] (.agg [vi d,.str n]) i es=some none∨ ∃ (j:Nat) (c:Int) (d':Int) (n':Ah),eo [1,2] (.agg [vi d,.str n]) i es=some (some (i+j,vi c))∧es[j]? =some (.tuple [.agg [vi d',.str n'],vi c])
 | [],_,_=> .inl rfl
 | e::es,i,h=>by
   obtain⟨d',n',c,rfl⟩:=h e abW
   simp only[eo,Re]
   cases hb: ((d==d') &&decide (n=n')) with
   | true=>exact .inr ⟨0,c,d',n',rfl,rfl⟩
   | false=>
     rcases Rf d n (es:=es) (i+1) (fun x hx=>h x (by simp[hx])) with h1| ⟨j,c',d2,n2,h1,h2⟩
     ·exact .inl h1
     ·refine .inr ⟨j+1,c',d2,n2,?_,by simpa using h2⟩
      rw[show i+(j+1)=i+1+j from by omega];exact h1
theorem Rg (d:Int) (n:Ah): ∀ {es:List V},TI es→ ∃c:Int,dM [1,2] false (.int .i64 0) es (.agg [vi d,.str n])= .done (vi c)
 | [],_=> ⟨0,rfl⟩
 | e::es,h=>by
   obtain⟨d',n',c,rfl⟩:=h e abW
   obtain⟨c',EC⟩:=Rg d n (es:=es) (fun x hx=>h x (by simp[hx]))
   simp only[dM,cM,Re] at EC ⊢
   cases hb: ((d==d') &&decide (n=n')) with
   | true=>exact⟨c,rfl⟩
   | false=>exact⟨c',EC⟩
theorem TI.set {es:List V} (h:TI es) (j:Nat) (d:Int) (n:Ah) (c:Int):TI (es.set j (.tuple [.agg [vi d,.str n],vi c])):=fun e he=>by
 rcases aje he with he| rfl
 ·exact h e he
 ·exact⟨d,n,c,rfl⟩
theorem TI.snoc {es:List V} (h:TI es) (d:Int) (n:Ah) (c:Int):TI (es++[.tuple [.agg [vi d,.str n],vi c]]):=fun e he=>by
 rcases ai6.1 he with he| he
 ·exact h e he
 ·exact⟨d,n,c,by simpa using he⟩
theorem NG {ks:List Nat} {k:V} {es:List V} {j:Nat} {v:V} (h:eo ks k 0 es=some (some (j,v))): (match eo ks k 0 es with
 | some (some (j',v'))=> (V.tuple [v,.int .i64 j],es)=(V.tuple [v',.int .i64 j'],es)
 | some none=> (V.tuple [v,.int .i64 j],es)=(V.tuple [.int .i64 0,.int .i64 es.length],es++[.tuple [k,.int .i64 0]])
 | none=>False):=by rw[h]
theorem Vc {ks:List Nat} {k:V} {es:List V} (h:eo ks k 0 es=some none): (match eo ks k 0 es with
 | some (some (j',v'))=> (V.tuple [.int .i64 0,.int .i64 es.length],es++[.tuple [k,.int .i64 0]])=(V.tuple [v',.int .i64 j'],es)
 | some none=> (V.tuple [.int .i64 0,.int .i64 es.length],es++[.tuple [k,.int .i64 0]])=(V.tuple [.int .i64 0,.int .i64 es.length],es++[.tuple [k,.int .i64 0]])
 | none=>False):=by rw[h]
theorem He {es:List V} {j:Nat} {k w v:V} (h:es[((j:Nat):Int).toNat]? =some (.tuple [k,w])): ∃k' w',es[((j:Nat):Int).toNat]? =some (.tuple [k',w'])∧es.set ((j:Nat):Int).toNat (.tuple [k,v])=es.set ((j:Nat):Int).toNat (.tuple [k',v]):=⟨k,w,h,rfl⟩
theorem Dt {m:aI} {id:Int} (hw:m.ways.length< 1000000) (h:pb m.ways id= -1):Ev E 676 [m.v,vi id] ⟨vi 5,[]⟩:=by
 have h1:=qw hw id
 rw[h] at h1
 refine Ev.aD rfl rfl rfl ?_
 exact aiN
theorem Du {m:aI} {id:Int} (hw:m.ways.length≤12) (hl: ∀w ∈ m.ways,Az w) {k:Nat} {w:Way} (h:pb m.ways id=k) (hk:m.ways[k]? =some w): ∃c:Int,Ev E 676 [m.v,vi id] ⟨vi c,[]⟩:=by
 have h1:=qw (m:=m) abV id
 rw[h] at h1
 have hlw:=hl w (List.mem_of_getElem? hk)
 refine a8 (g:=vi) (Ev.bD rfl rfl rfl ?_)
 conv=>whnf
 repeat' (first| ((exfalso;omega)) | intro g| refine wi (aq hk rfl) ?_| apply ca h1| refine st ?_| refine br ?_ ?_<;>intro hc| rfl) <;>conv=>whnf
 rename_i yZ gK
 obtain⟨g0,Ck⟩: ∃x,x=g:=⟨_,rfl⟩
 rw[←Ck];clear Ck g
 have Yk:=(aiS.1 hk).1
 refine aL.by (fun ((i,b,L,pl,g):Nat×Bool×List Way×Nat×Nat)=> ⟨[(2,.ptr 48 yZ 0 0),(5,av k),(6,.ptr 112 gK 0 0),(7,.bool b),(8,.sl 145 g 0 L.length),(9,av pl),(29,.lit 8 (m.ways.map Way.v)),(30,av m.ways.length),(31,av i)],
   [(48,⟨yZ,4,false,false,some [m.v]⟩),(112,⟨gK,8,false,false,some [w.v]⟩),(145,⟨g,8,true,false,some (L.map Way.v)⟩)]⟩)
  (fun (i,b,L,pl,_)=>i≤m.ways.length∧L.length≤i∧(∀x ∈ L,x ∈ m.ways)∧(k<i→pl<L.length)) (fun (i,_)=>m.ways.length - i) (0,_,[],0,g0) su ⟨abW,abW,abW,abW⟩ ?_
 rintro⟨i,b,L,pl,gl⟩ ⟨hi,hL,hm,xf⟩
 try dsimp only at hi hL hm xf
 by_cases bl:i<m.ways.length
 ·obtain⟨x,hx⟩: ∃x,m.ways[i]? =some x:=⟨_,aH bl⟩
  have hxm:=List.mem_of_getElem? hx
  obtain⟨j,hj⟩:=Ke (hl x hxm) hlw
  have kC: ∀y ∈ L++[x],y ∈ m.ways:=fun y hy=>by
   rcases ai6.1 hy with hy| hy
   ·exact hm y hy
   ·rw[ajC.1 hy];exact hxm
  by_cases hd:x.bG=w.bG
  ·by_cases GW:i=k
   ·subst GW
    conv=>whnf
    repeat' (first| ((exfalso;omega)) | intro g| refine wi (aq hx rfl) ?_| refine st ?_| refine br ?_ ?_<;>intro hc| rfl) <;>conv=>whnf
    exact aK.mk (i+1,b,L++[x],L.length,g) om ⟨abV,by simp;omega,kC,abW⟩ su
   ·have ais: ¬ (i:Int)=(k:Int):=abV
    conv=>whnf
    repeat' (first| ((exfalso;omega)) | intro g| refine wi (aq hx rfl) ?_| refine st ?_| refine br ?_ ?_<;>intro hc| rfl) <;>conv=>whnf
    exact aK.mk (i+1,b,L++[x],pl,g) om ⟨abV,by simp;omega,kC,fun h=>by have:=xf abV;simp;omega⟩ su
  ·have GW:i≠k:=fun e=>by subst e;rw[hk] at hx;injection hx with hx;exact hd (by rw[hx])
   cases b
   ·conv=>whnf
    repeat' (first| ((exfalso;omega)) | intro g| refine wi (aq hx rfl) ?_| apply ca hj| refine st ?_| refine br ?_ ?_<;>intro hc| rfl) <;>conv=>whnf
    exact aK.mk (i+1,_,L,pl,gl) om ⟨abV,abV,hm,fun h=>xf abV⟩ su
   ·conv=>whnf
    repeat' (first| ((exfalso;omega)) | intro g| refine wi (aq hx rfl) ?_| apply ca hj| refine st ?_| refine br ?_ ?_<;>intro hc| rfl) <;>conv=>whnf
    exact aK.mk (i+1,_,L,pl,gl) om ⟨abV,abV,hm,fun h=>xf abV⟩ su
 obtain rfl:i=m.ways.length:=abV
 have ag1:=xf Yk
 clear bl hi xf
 conv=>whnf
 repeat' (first| intro g| refine st ?_| refine br ?_ ?_<;>intro hc| rfl) <;>conv=>whnf
 obtain⟨gm,Cz⟩: ∃x,x=g:=⟨_,rfl⟩
 rw[←Cz];clear Cz g
 refine aL.by (fun ((i,es):Nat×List V)=> ⟨[(6,.ptr 112 gK 0 0),(7,.bool b),(8,.sl 145 gl 0 L.length),(9,av pl),(12,.mp 944 gm),(60,.lit 8 (m.ways.map Way.v)),(61,av m.ways.length),(62,av i)],
   [(112,⟨gK,8,false,false,some [w.v]⟩),(145,⟨gl,8,true,false,some (L.map Way.v)⟩),(944,⟨gm,0,false,false,some es⟩)]⟩)
  (fun (i,es)=>i≤m.ways.length∧TI es) (fun (i,_)=>m.ways.length - i) (0,[]) su ⟨abW,by simp[TI]⟩ ?_
 rintro⟨i,es⟩ ⟨hi,he⟩
 try dsimp only at hi he
 by_cases bl:i<m.ways.length
 ·obtain⟨x,hx⟩: ∃x,m.ways[i]? =some x:=⟨_,aH bl⟩
  obtain⟨c,acx⟩:=Hd x.bG x.name he
  have ht:=Kf he
  rcases Rf x.bG x.name 0 he with sC| ⟨j,c2,d2,n2,sC,kj⟩
  ·have GL:=Vc sC
   have kj: (es++[V.tuple [.agg [vi x.bG,.str x.name],.int .i64 0]])[((es.length:Nat):Int).toNat]? =some (.tuple [.agg [vi x.bG,.str x.name],.int .i64 0]):=by
    rw[Int.toNat_natCast,ajp (aiZ _),Nat.sub_self];rfl
   conv=>whnf
   repeat' (first| intro g| refine wi (aq hx rfl) ?_| refine wi GL ?_| refine wi (He kj) ?_| refine st ?_| refine br ?_ ?_<;>intro hc| rfl| (rw[acx])) <;>conv=>whnf
   exact aK.mk (i+1,(es++[V.tuple [.agg [vi x.bG,.str x.name],vi 0]]).set ((es.length:Nat):Int).toNat (.tuple [.agg [vi x.bG,.str x.name],vi (IntKind.i64.wrap (c+1))])) om ⟨abV,(he.snoc x.bG x.name 0).set _ _ _ _⟩ su
  ·rw[ajF] at sC
   have GL:=NG sC
   have CA:es[((j:Nat):Int).toNat]? =some (.tuple [.agg [vi d2,.str n2],vi c2]):=kj
   conv=>whnf
   repeat' (first| intro g| refine wi (aq hx rfl) ?_| refine wi GL ?_| refine wi (He CA) ?_| refine st ?_| refine br ?_ ?_<;>intro hc| rfl| (rw[acx])) <;>conv=>whnf
   exact aK.mk (i+1,es.set ((j:Nat):Int).toNat (.tuple [.agg [vi d2,.str n2],vi (IntKind.i64.wrap (c+1))])) om ⟨abV,he.set _ _ _ _⟩ su
 obtain⟨c1,hg⟩:=Rg w.bG w.name he
 obtain⟨r,hb⟩:=G6 ag1 abV (fun y hy=>hl y (hm y hy))
 have ht:=Kf he
 cases b
 ·cases r
  ·by_cases Qq:w.name=[]
   ·conv=>whnf
    repeat' (first| intro g| refine wi hg ?_| refine wi (jr (by rw[List.length_map])) ?_| apply ca hb| refine st ?_| refine br ?_ ?_<;>intro hc| rfl) <;>conv=>whnf
    all_goals exact⟨_,rfl⟩
   ·conv=>whnf
    repeat' (first| intro g| refine wi hg ?_| refine wi (jr (by rw[List.length_map])) ?_| apply ca hb| refine st ?_| refine br ?_ ?_<;>intro hc| rfl) <;>conv=>whnf
    all_goals exact⟨_,rfl⟩
  ·conv=>whnf
   repeat' (first| intro g| refine wi hg ?_| refine wi (jr (by rw[List.length_map])) ?_| apply ca hb| refine st ?_| refine br ?_ ?_<;>intro hc| rfl) <;>conv=>whnf
   all_goals exact⟨_,rfl⟩
 ·exact aiN
end Go.AM
namespace Go.AM
structure aI.Bd (m:aI):Prop where
 e:m.aB.length≤18
 el: ∀e ∈ m.aB,e.line.length< 10
 f:m.an.length≤36
 w:m.ways.length≤12
 wl: ∀w ∈ m.ways,Az w
 p:m.az.length≤6
theorem vn:aI.zero.Bd:=⟨aiO,by simp[aI.zero],aiO,aiO,by simp[aI.zero],aiO⟩
def vp (f:Nat) (args:List V):Prop:= ∃ (v:V) (M:aI) (c:Int),Ev E f args ⟨v,[]⟩∧PT v (.tuple [M.v,vi c])∧M.Bd
theorem Hf {m:aI} (h:m.Bd) (id:Int): ∃c:Int,Ev E 676 [m.v,vi id] ⟨vi c,[]⟩:=by
 rcases cI (fun w:Way=>decide (w.id=id)) m.ways with⟨h1,_⟩ | ⟨k,w,h1,h2,h3⟩
 ·exact⟨5,Dt (by have:=h.w;omega) h1⟩
 ·exact Du h.w h.wl h1 h2
theorem NH {m:aI} {k:Nat} {w:Way} (hk:m.ways[k]? =some w) (hw:m.ways.length< 1000000): ∃c:Int,Ev E 686 [vi k,.eptr m.v 0] ⟨vi c,[]⟩:=by
 have:=(aiS.1 hk).1
 refine a8 (g:=vi) (Ev.bD rfl rfl rfl ?_)
 exact dr1
theorem NI (m:aI):Ev E 686 [vi (-1),.eptr m.v 0] ⟨vi 0,[]⟩:=by
 refine Ev.aD rfl rfl rfl ?_
 exact aiN
theorem Dv {m:aI} (h:m.Bd) (id:Int): ∃c:Int,Ev E 678 [m.v,vi id] ⟨vi c,[]⟩:=by
 have hw:=h.w
 have h1:=qw (m:=m) abV id
 rcases cI (fun w:Way=>decide (w.id=id)) m.ways with⟨hf,_⟩ | ⟨k,w,hf,h2,h3⟩
 ·have hf:pb m.ways id= -1:=hf
  rw[hf] at h1
  have h0:=NI m
  refine a8 (g:=vi) (Ev.bD rfl rfl rfl ?_)
  exact aiN
 ·have hf:pb m.ways id=k:=hf
  rw[hf] at h1
  obtain⟨c,h0⟩:=NH h2 abV
  refine a8 (g:=vi) (Ev.bD rfl rfl rfl ?_)
  exact aiN
theorem vp.mk {f:Nat} {args:List V} (h: ∃res,Ev E f args res∧ ∃ (v:V) (M:aI) (c:Int),res=⟨v,[]⟩∧PT v (.tuple [M.v,vi c])∧M.Bd):vp f args:=by
 obtain⟨_,h1,v,M,c,rfl,h2,h3⟩:=h
 exact⟨v,M,c,h1,h2,h3⟩
theorem AB {m:aI} {id c:Int} (hz: ¬c=0) (hc:Ev E 676 [m.v,vi id] ⟨vi c,[]⟩):vp 680 [m.v,vi id]:=by
 refine .mk (Ev.bD rfl rfl rfl ?_)
 conv=>whnf
 repeat' (first| contradiction| intro g| apply ca hc| refine st ?_| refine br ?_ ?_<;>intro hc| rfl) <;>conv=>whnf
 exact⟨_,aI.zero,c,rfl,fun _ _=>rfl,vn⟩
theorem Kg {m:aI} (h:m.Bd) (id:Int):vp 680 [m.v,vi id]:=by
 have hw:=h.w
 have h1:=qw (m:=m) abV id
 rcases cI (fun w:Way=>decide (w.id=id)) m.ways with⟨hf,_⟩ | ⟨k,w,hf,h2,h3⟩
 ·exact AB aiO (Dt abV hf)
 obtain⟨c,hc⟩:=Du h.w h.wl hf h2
 by_cases hz:c=0
 case neg=>exact AB hz hc
 subst hz
 have hf:pb m.ways id=k:=hf
 rw[hf] at h1
 have hk:=(aiS.1 h2).1
 have ho:=ym hk abV
 obtain⟨os,hos⟩: ∃x,m.ways.eraseIdx k=x:=⟨_,rfl⟩
 have ag2:os.length≤12:=by rw[←hos,ajV];split<;>omega
 have acy: ∀w ∈ os,Az w:=fun w hw=>h.wl w (by rw[←hos] at hw;exact List.mem_of_mem_eraseIdx hw)
 rw[hos] at ho
 obtain⟨L,hL1,hL2,YO⟩:=G5 (f:=691) rfl (P:=Az) (ws:=os) abV (fun i w hw=>by
  obtain⟨v,k1,k2⟩:=YM i w (by have:=(acy w hw).2;omega)
  exact⟨v,w,k1,k2,acy w hw⟩)
 obtain⟨S,hS1,hS2,UA⟩:=Q8 (f:=688) rfl (P:=fun e=>e.line.length< 10) (ws:=m.aB) (by have:=h.e;omega) (fun i e he=>by
  have:=h.el e he
  obtain⟨v,k1,k2⟩:=YN i e abV
  exact⟨v,e,k1,k2,this⟩)
 have c2:=rS m.an (by have:=h.f;omega)
 have c4:=lP m.az (by have:=h.p;omega)
 refine .mk (Ev.bD rfl rfl rfl ?_)
 conv=>whnf
 repeat' (first| ((exfalso;omega)) | intro g| apply ca hc| apply ca h1| apply ca ho| apply ca YO| apply ca UA| apply ca c2| apply ca c4| refine st ?_| refine br ?_ ?_<;>intro hc| rfl) <;>conv=>whnf
 exact⟨_,⟨S,m.an,L,m.az⟩,0,rfl,fun _ _=>rfl,⟨by dsimp only;have:=h.e;omega,hS2,h.f,om,hL2,h.p⟩⟩
theorem Rh {m:aI} (h:m.Bd) (d:Int): ∃l:List Event,l.length≤m.ways.length∧Ev E 681 [m.v,vi d] ⟨.own 5 (l.map Event.v),[]⟩:=by
 suffices hh: ∃res,Ev E 681 [m.v,vi d] res∧ ∃l:List Event,l.length≤m.ways.length∧res=⟨.own 5 (l.map Event.v),[]⟩ by
  obtain⟨_,h1,l,h2,rfl⟩:=hh
  exact⟨l,h2,h1⟩
 have hw:=h.w
 refine Ev.bD rfl rfl rfl ?_
 conv=>whnf
 repeat' (first| intro g| refine st ?_| refine br ?_ ?_<;>intro hc| rfl) <;>conv=>whnf
 rename_i yZ
 obtain⟨g0,Ck⟩: ∃x,x=g:=⟨_,rfl⟩
 rw[←Ck];clear Ck g
 refine aL.by (fun ((i,l,g):Nat×List Event×Nat)=> ⟨[(1,vi d),(2,.ptr 48 yZ 0 0),(4,.sl 81 g 0 l.length),(8,.lit 8 (m.ways.map Way.v)),(9,av m.ways.length),(10,av i)],[(48,⟨yZ,4,false,false,some [m.v]⟩),(81,⟨g,5,true,false,some (l.map Event.v)⟩)]⟩)
  (fun (i,l,_)=>i≤m.ways.length∧l.length≤i) (fun (i,_)=>m.ways.length - i) (0,[],g0) su ⟨abW,abW⟩ ?_
 rintro⟨i,l,gl⟩ ⟨hi,hl⟩
 try dsimp only at hi hl
 by_cases bl:i<m.ways.length
 case neg=>
  conv=>whnf
  repeat' (first| intro g| refine st ?_| refine br ?_ ?_<;>intro hc| rfl) <;>conv=>whnf
  exact⟨l,abV,rfl⟩
 obtain⟨w,hx⟩: ∃x,m.ways[i]? =some x:=⟨_,aH bl⟩
 have h1:=qw (m:=m) abV w.id
 obtain⟨c,h2⟩:=Hf h w.id
 obtain⟨q,h3⟩:=Dv h w.id
 generalize pb m.ways w.id=fw at h1
 by_cases hd:w.bG=d
 ·by_cases hf:fw=(i:Int)
  ·by_cases hc:c=0
   ·subst hc
    conv=>whnf
    repeat' (first| contradiction| intro g| refine wi (aq hx rfl) ?_| apply ca h1| apply ca h2| apply ca h3| refine st ?_| refine br ?_ ?_<;>intro hc| rfl) <;>conv=>whnf
    exact aK.mk (i+1,l++[⟨3,_,w.id,0,0⟩],g) om ⟨abV,by simp;omega⟩ su
   ·conv=>whnf
    repeat' (first| contradiction| intro g| refine wi (aq hx rfl) ?_| apply ca h1| apply ca h2| apply ca h3| refine st ?_| refine br ?_ ?_<;>intro hc| rfl) <;>conv=>whnf
    exact aK.mk (i+1,l,gl) om ⟨abV,abV⟩ su
  ·conv=>whnf
   repeat' (first| contradiction| intro g| refine wi (aq hx rfl) ?_| apply ca h1| apply ca h2| apply ca h3| refine st ?_| refine br ?_ ?_<;>intro hc| rfl) <;>conv=>whnf
   exact aK.mk (i+1,l,gl) om ⟨abV,abV⟩ su
 ·conv=>whnf
  repeat' (first| contradiction| intro g| refine wi (aq hx rfl) ?_| apply ca h1| apply ca h2| apply ca h3| refine st ?_| refine br ?_ ?_<;>intro hc| rfl) <;>conv=>whnf
  exact aK.mk (i+1,l,gl) om ⟨abV,abV⟩ su
end Go.AM
namespace Go.AM.Dr
theorem ql (x:Int):Ev E 36 [vi x] ⟨.bool false,[]⟩:=by
 refine Ev.aD rfl rfl rfl ?_
 conv=>whnf
 repeat' (first| intro g| refine st ?_| refine br ?_ ?_<;>intro hc| rfl) <;>conv=>whnf
 all_goals simp
def kM (x y:Int):Int:=if x<y then -1 else if y<x then 1 else 0
theorem dK (x y:Int):Ev E 23 [vi x,vi y] ⟨vi (kM x y),[]⟩:=by
 refine Ev.aD rfl rfl rfl ?_
 conv=>whnf
 repeat' (first| intro g| apply ca (ql x) | apply ca (ql y) | refine st ?_| refine br ?_ ?_<;>intro hc| rfl) <;>conv=>whnf
 all_goals simp[kM, *]
 all_goals omega
def Nq (a b:Int):Int:=if a=0 then b else a
theorem EW (a b:Int):Ev E 22 [.lit 1 [vi a,vi b]] ⟨vi (Nq a b),[]⟩:=by
 refine Ev.aD rfl rfl rfl ?_
 conv=>whnf
 repeat' (first| intro g| refine st ?_| refine br ?_ ?_<;>intro hc| rfl) <;>conv=>whnf
 refine aL.by (fun i:Nat=> ⟨[(3,vi 0),(6,.lit 1 [vi a,vi b]),(7,av 2),(8,av i)],[]⟩) (fun i=>i≤2∧(1≤i→a=0)∧(2≤i→b=0)) (fun i=>2 - i) 0 ?_ ?_ ?_
 ·exact su
 ·simp
 rintro i ⟨hi,h1,h2⟩
 rcases(by omega:i=0∨i=1∨i=2) with rfl| rfl| rfl
 ·conv=>whnf
  repeat' (first| intro g| refine st ?_| refine br ?_ ?_<;>intro hc| rfl) <;>conv=>whnf
  ·simp[Nq,hc]
  ·exact aK.mk 1 om ⟨by omega,fun _=>by simpa using hc,fun h=>by omega⟩ su
 ·have ha:=h1 (by omega)
  conv=>whnf
  repeat' (first| intro g| refine st ?_| refine br ?_ ?_<;>intro hc| rfl) <;>conv=>whnf
  ·simp[Nq,ha]
  ·exact aK.mk 2 om ⟨by omega,fun _=>ha,fun _=>by simpa using hc⟩ su
 ·have ha:=h1 (by omega)
  have hb:=h2 (by omega)
  conv=>whnf
  repeat' (first| intro g| refine st ?_| refine br ?_ ?_<;>intro hc| rfl) <;>conv=>whnf
  all_goals simp[Nq,ha,hb]
theorem Dw (a:Int): ∃r:Int,Ev E 287 [vi a] ⟨vi r,[]⟩:=by
 refine a8 (Ev.bD rfl rfl rfl ?_)
 conv=>whnf
 repeat' (first| intro g| apply ca (dK _ _) | refine st ?_| refine br ?_ ?_<;>intro hc| rfl) <;>conv=>whnf
 all_goals exact⟨_,rfl⟩
noncomputable def YP (a:Int):Int:=(Dw a).choose
theorem oq (a:Int):Ev E 287 [vi a] ⟨vi (YP a),[]⟩:=(Dw a).choose_spec
theorem Dx (a:Int): ∃r:Int,Ev E 299 [vi a] ⟨.int .u64 r,[]⟩:=by
 refine a8 (Ev.bD rfl rfl rfl ?_)
 exact aiN
noncomputable def YQ (a:Int):Int:=(Dx a).choose
theorem vq (a:Int):Ev E 299 [vi a] ⟨.int .u64 (YQ a),[]⟩:=(Dx a).choose_spec
theorem Dy (a:Int): ∃r:Bool,Ev E 304 [.int .u64 a] ⟨.bool r,[]⟩:=by
 refine a8 (Ev.bD rfl rfl rfl ?_)
 exact aiN
noncomputable def YR (a:Int):Bool:=(Dy a).choose
theorem AD (a:Int):Ev E 304 [.int .u64 a] ⟨.bool (YR a),[]⟩:=(Dy a).choose_spec
theorem Dz (a:Int) (b:Int): ∃r:Int,Ev E 300 [.int .u64 a,.int .u64 b] ⟨vi r,[]⟩:=by
 refine a8 (Ev.bD rfl rfl rfl ?_)
 conv=>whnf
 repeat' (first| intro g| apply ca (AD _) | refine st ?_| refine br ?_ ?_<;>intro hc| rfl) <;>conv=>whnf
 all_goals exact⟨_,rfl⟩
noncomputable def YS (a:Int) (b:Int):Int:=(Dz a b).choose
theorem vr (a:Int) (b:Int):Ev E 300 [.int .u64 a,.int .u64 b] ⟨vi (YS a b),[]⟩:=(Dz a b).choose_spec
theorem DA (a:Int) (b:Int): ∃r:Int×Int,Ev E 298 [.int .u64 a,.int .u64 b] ⟨.tuple [.int .u64 r.1,.int .u64 r.2],[]⟩:=by
 refine a8 (Ev.bD rfl rfl rfl ?_)
 conv=>whnf
 repeat' (first| intro g| refine st ?_| refine br ?_ ?_<;>intro hc| rfl) <;>conv=>whnf
 all_goals exact⟨⟨_,_⟩,rfl⟩
noncomputable def Ri (a:Int) (b:Int):Int×Int:=(DA a b).choose
theorem AE (a:Int) (b:Int):Ev E 298 [.int .u64 a,.int .u64 b] ⟨.tuple [.int .u64 (Ri a b).1,.int .u64 (Ri a b).2],[]⟩:=(DA a b).choose_spec
theorem DB (a:Int) (b:Int): ∃r:Int×Int,Ev E 288 [vi a,vi b] ⟨.agg [.int .u64 r.1,.int .u64 r.2],[]⟩:=by
 refine a8 (Ev.bD rfl rfl rfl ?_)
 conv=>whnf
 repeat' (first| intro g| apply ca (vq _) | apply ca (AE _ _) | refine st ?_| refine br ?_ ?_<;>intro hc| rfl) <;>conv=>whnf
 all_goals exact⟨⟨_,_⟩,rfl⟩
noncomputable def Rj (a:Int) (b:Int):Int×Int:=(DB a b).choose
theorem AF (a:Int) (b:Int):Ev E 288 [vi a,vi b] ⟨.agg [.int .u64 (Rj a b).1,.int .u64 (Rj a b).2],[]⟩:=(DB a b).choose_spec
theorem Hg (a:Int) (b:Int) (c:Int) (d:Int): ∃r:Int,Ev E 289 [.agg [.int .u64 a,.int .u64 b],.agg [.int .u64 c,.int .u64 d]] ⟨vi r,[]⟩:=by
 refine a8 (Ev.bD rfl rfl rfl ?_)
 conv=>whnf
 repeat' (first| intro g| apply ca (vr _ _) | refine st ?_| refine br ?_ ?_<;>intro hc| rfl) <;>conv=>whnf
 all_goals exact⟨_,rfl⟩
noncomputable def acz (a:Int) (b:Int) (c:Int) (d:Int):Int:=(Hg a b c d).choose
theorem E7 (a:Int) (b:Int) (c:Int) (d:Int):Ev E 289 [.agg [.int .u64 a,.int .u64 b],.agg [.int .u64 c,.int .u64 d]] ⟨vi (acz a b c d),[]⟩:=(Hg a b c d).choose_spec
theorem AG (a:Int) (b:Int) (c:Int) (d:Int): ∃r:Int,Ev E 277 [vi a,vi b,vi c,vi d] ⟨vi r,[]⟩:=by
 refine a8 (Ev.bD rfl rfl rfl ?_)
 conv=>whnf
 repeat' (first| intro g| apply ca (oq _) | apply ca (AF _ _) | apply ca (E7 _ _ _ _) | refine st ?_| refine br ?_ ?_<;>intro hc| rfl) <;>conv=>whnf
 all_goals exact⟨_,rfl⟩
noncomputable def Vd (a:Int) (b:Int) (c:Int) (d:Int):Int:=(AG a b c d).choose
theorem NJ (a:Int) (b:Int) (c:Int) (d:Int):Ev E 277 [vi a,vi b,vi c,vi d] ⟨vi (Vd a b c d),[]⟩:=(AG a b c d).choose_spec
end Go.AM.Dr
namespace Go.AM.Dr
theorem AH {l:List Int} {g:Nat} {caps:List V} (hc:V.al caps=true) {p:Int→Bool} (hlen:l.length< 4611686018427387904)
  (hp: ∀x:Int,Ev E g (vi x::caps) ⟨.bool (p x),[]⟩) (hm:bz E g=[]):Ev E 259 [.lit 1 (l.map vi),.fn g caps] ⟨.bool (decide (0≤firstIdx p l)),[]⟩:=by
 exact qg (a:=false) (j:=280) (fun _=>rfl) (fun _=>rfl) hc hlen hp hm
theorem Hh {l:List Pt} {g:Nat} {caps:List V} (hc:V.al caps=true) {p:Pt→Bool} (hlen:l.length< 4611686018427387904)
  (hp: ∀x:Pt,Ev E g (Pt.v x::caps) ⟨.bool (p x),[]⟩) (hm:bz E g=[]):Ev E 187 [.lit 2 (l.map Pt.v),.fn g caps] ⟨.bool (decide (0≤firstIdx p l)),[]⟩:=by
 exact qg (a:=true) (j:=224) (fun _=>rfl) (fun _=>rfl) hc hlen hp hm
theorem NK {l:List Place} {g:Nat} {caps:List V} (hc:V.al caps=true) {p:Place→Bool} (hlen:l.length< 4611686018427387904)
  (hp: ∀x:Place,Ev E g (Place.v x::caps) ⟨.bool (p x),[]⟩) (hm:bz E g=[]):Ev E 554 [.lit 7 (l.map Place.v),.fn g caps] ⟨.bool (decide (0≤firstIdx p l)),[]⟩:=by
 exact qg (a:=true) (j:=33) (fun _=>rfl) (fun _=>rfl) hc hlen hp hm
theorem Rk {l:List Edge} {g:Nat} {caps:List V} (hc:V.al caps=true) {p:Edge→Bool} (hlen:l.length< 4611686018427387904)
  (hp: ∀x:Edge,Ev E g (Edge.v x::caps) ⟨.bool (p x),[]⟩) (hm:bz E g=[]):Ev E 216 [.lit 4 (l.map Edge.v),.fn g caps] ⟨vi (firstIdx p l),[]⟩:=by
 exact oZ (a:=true) (fun _=>rfl) (fun _=>rfl) hc hlen hp hm
theorem Rm {l:List aW} {g:Nat} {caps:List V} (hc:V.al caps=true) {p:aW→Bool} (hlen:l.length< 4611686018427387904)
  (hp: ∀x:aW,Ev E g (aW.v x::caps) ⟨.bool (p x),[]⟩) (hm:bz E g=[]):Ev E 179 [.lit 5 (l.map aW.v),.fn g caps] ⟨vi (firstIdx p l),[]⟩:=by
 exact oZ (a:=true) (fun _=>rfl) (fun _=>rfl) hc hlen hp hm
theorem Rn (x n:Int): ∃r:Bool,Ev E 260 [vi x,.eptr (vi n) 0] ⟨.bool r,[]⟩:=by
 refine a8 (Ev.bD rfl rfl rfl ?_)
 exact aiN
noncomputable def cwF (x n:Int):Bool:=(Rn x n).choose
theorem Ro (x n:Int):Ev E 260 [vi x,.eptr (vi n) 0] ⟨.bool (cwF x n),[]⟩:=(Rn x n).choose_spec
theorem AI (n:Int) (l:List Int) (hl:l.length< 4611686018427387904): ∃r:Bool,Ev E 227 [vi n,.lit 1 (l.map vi)] ⟨.bool r,[]⟩:=by
 refine a8 (Ev.bD rfl rfl rfl ?_)
 have h:=AH (caps:=[.eptr (vi n) 0]) rfl hl (fun x=>Ro x n) rfl
 exact aiN
theorem Rp (p:Pt): ∃r:Bool,Ev E 276 [p.v] ⟨.bool r,[]⟩:=by
 refine a8 (Ev.bD rfl rfl rfl ?_)
 obtain⟨w,hw⟩:=AI 1152921504606846976 [p.x,p.y] (by simp)
 exact aiN
noncomputable def cbF (p:Pt):Bool:=(Rp p).choose
theorem acA (p:Pt):Ev E 276 [p.v] ⟨.bool (cbF p),[]⟩:=(Rp p).choose_spec
noncomputable def YT (l:List Pt):Bool:= !decide (0≤firstIdx cbF l)
theorem yn (l:List Pt) (hl:l.length< 4611686018427387904):Ev E 251 [.lit 2 (l.map Pt.v)] ⟨.bool (YT l),[]⟩:=by
 have h:=Hh (caps:=[]) rfl hl acA rfl
 refine Ev.aD rfl rfl rfl ?_
 exact aiN
theorem yo (p:Pt): ∃r:Bool,Ev E 189 [p.v] ⟨.bool r,[]⟩:=by
 refine a8 (Ev.bD rfl rfl rfl ?_)
 obtain⟨w,hw⟩:=AI 16384 [p.x,p.y] (by simp)
 exact aiN
noncomputable def Rq (p:Pt):Bool:=(yo p).choose
theorem tN (p:Pt):Ev E 189 [p.v] ⟨.bool (Rq p),[]⟩:=(yo p).choose_spec
theorem Rs (p:Pt): ∃r:Bool,Ev E 220 [p.v] ⟨.bool r,[]⟩:=by
 refine a8 (Ev.bD rfl rfl rfl ?_)
 conv=>whnf
 repeat' (first| intro g| apply ca (tN _) | refine st ?_| refine br ?_ ?_<;>intro hc| rfl) <;>conv=>whnf
 all_goals exact⟨_,rfl⟩
noncomputable def crF (p:Pt):Bool:=(Rs p).choose
theorem acB (p:Pt):Ev E 220 [p.v] ⟨.bool (crF p),[]⟩:=(Rs p).choose_spec
noncomputable def E8 (l:List Pt):Bool:= !decide (0≤firstIdx crF l)
theorem AJ (l:List Pt) (hl:l.length< 4611686018427387904):Ev E 181 [.lit 2 (l.map Pt.v)] ⟨.bool (E8 l),[]⟩:=by
 have h:=Hh (caps:=[]) rfl hl acB rfl
 refine Ev.aD rfl rfl rfl ?_
 exact aiN
theorem qn (a b:Pt):Ev E 37 [a.v,b.v] ⟨(Pt.mk (gC (a.x - b.x)) (gC (a.y - b.y))).v,[]⟩:=by
 refine Ev.aD rfl rfl rfl ?_
 exact aiN
theorem Hi (a b p:Pt): ∃r:Int,Ev E 252 [a.v,b.v,p.v] ⟨vi r,[]⟩:=by
 refine a8 (Ev.bD rfl rfl rfl ?_)
 have hb:Ev E 251 [.lit 2 [a.v,b.v,p.v]] ⟨.bool (YT [a,b,p]),[]⟩:=yn [a,b,p] (by simp)
 conv=>whnf
 repeat' (first| intro g| apply ca hb| apply ca (qn b a) | apply ca (qn p a) | apply ca (NJ _ _ _ _) | refine st ?_| refine br ?_ ?_<;>intro hc| rfl) <;>conv=>whnf
 all_goals exact⟨_,rfl⟩
noncomputable def acC (a b p:Pt):Int:=(Hi a b p).choose
theorem vt (a b p:Pt):Ev E 252 [a.v,b.v,p.v] ⟨vi (acC a b p),[]⟩:=(Hi a b p).choose_spec
def Rt (a b:Pt):Int:=Nq (kM a.x b.x) (kM a.y b.y)
theorem qx (a b:Pt):Ev E 254 [a.v,b.v] ⟨vi (Rt a b),[]⟩:=by
 refine Ev.aD rfl rfl rfl ?_
 conv=>whnf
 repeat' (first| intro g| apply ca (dK _ _) | apply ca (EW _ _) | refine st ?_| refine br ?_ ?_<;>intro hc| rfl) <;>conv=>whnf
theorem Hj (p q:Pt): ∃r:Pt,Ev E 255 [.lit 2 [p.v,q.v],.fn 254 []] ⟨r.v,[]⟩:=by
 refine a8 (Ev.bD rfl rfl rfl ?_)
 have hm:bz E 254=[]:=rfl
 conv=>whnf
 repeat' (first| intro g| refine st ?_| refine br ?_ ?_<;>intro hc| rfl) <;>conv=>whnf
 rename_i g1
 refine aL.by (fun ((i,r):Nat×Pt)=> ⟨[(0,.lit 2 [p.v,q.v]),(1,.fn 254 []),(4,.ptr 80 g1 0 0),(5,.ptr 96 g 0 0),(6,av (i+1))],[(80,⟨g1,2,false,false,some [.agg [vi 0,vi 0]]⟩),(96,⟨g,2,false,false,some [r.v]⟩)]⟩)
  (fun (i,_)=>i≤1) (fun (i,_)=>1 - i) (0,p) su (by simp) ?_
 rintro⟨i,r⟩ hi
 try dsimp only at hi
 rcases(by omega:i=0∨i=1) with rfl| rfl
 ·conv=>whnf
  repeat' (first| intro g| refine sf (qx _ _) ?_| refine st ?_| refine br ?_ ?_<;>intro hc| rfl) <;>conv=>whnf
  ·exact aK.mk (1,q) om (by simp) su
  ·exact aK.mk (1,r) om (by simp) su
 ·conv=>whnf
  repeat' (first| intro g| refine st ?_| refine br ?_ ?_<;>intro hc| rfl) <;>conv=>whnf
  exact⟨_,rfl⟩
noncomputable def acD (p q:Pt):Pt:=(Hj p q).choose
theorem Ve (p q:Pt):Ev E 255 [.lit 2 [p.v,q.v],.fn 254 []] ⟨(acD p q).v,[]⟩:=(Hj p q).choose_spec
theorem Hk (p q:Pt): ∃r:Pt,Ev E 175 [.lit 2 [p.v,q.v],.fn 254 []] ⟨r.v,[]⟩:=by
 refine a8 (Ev.bD rfl rfl rfl ?_)
 have hm:bz E 254=[]:=rfl
 conv=>whnf
 repeat' (first| intro g| refine st ?_| refine br ?_ ?_<;>intro hc| rfl) <;>conv=>whnf
 rename_i g1
 refine aL.by (fun ((i,r):Nat×Pt)=> ⟨[(0,.lit 2 [p.v,q.v]),(1,.fn 254 []),(4,.ptr 80 g1 0 0),(5,.ptr 96 g 0 0),(6,av (i+1))],[(80,⟨g1,2,false,false,some [.agg [vi 0,vi 0]]⟩),(96,⟨g,2,false,false,some [r.v]⟩)]⟩)
  (fun (i,_)=>i≤1) (fun (i,_)=>1 - i) (0,p) su (by simp) ?_
 rintro⟨i,r⟩ hi
 try dsimp only at hi
 rcases(by omega:i=0∨i=1) with rfl| rfl
 ·conv=>whnf
  repeat' (first| intro g| refine sf (qx _ _) ?_| refine st ?_| refine br ?_ ?_<;>intro hc| rfl) <;>conv=>whnf
  ·exact aK.mk (1,q) om (by simp) su
  ·exact aK.mk (1,r) om (by simp) su
 ·conv=>whnf
  repeat' (first| intro g| refine st ?_| refine br ?_ ?_<;>intro hc| rfl) <;>conv=>whnf
  exact⟨_,rfl⟩
noncomputable def acE (p q:Pt):Pt:=(Hk p q).choose
theorem Vf (p q:Pt):Ev E 175 [.lit 2 [p.v,q.v],.fn 254 []] ⟨(acE p q).v,[]⟩:=(Hk p q).choose_spec
end Go.AM.Dr
namespace Go.AM.Dr
theorem Hl (a b c d:Pt): ∃r:Int,Ev E 222 [a.v,b.v,c.v,d.v] ⟨vi r,[]⟩:=by
 refine a8 (Ev.bD rfl rfl rfl ?_)
 have hb:Ev E 251 [.lit 2 [a.v,b.v,c.v,d.v]] ⟨.bool (YT [a,b,c,d]),[]⟩:=yn [a,b,c,d] (by simp)
 obtain⟨p1,q1,h1⟩:=GQ a b
 obtain⟨p2,q2,h2⟩:=GQ c d
 conv=>whnf
 repeat' (first| intro g| refine nd ⟨rfl,rfl,rfl⟩ ?_| apply ca hb| apply ca (vt _ _ _) | apply ca h1| apply ca h2| apply ca (Ve _ _) | apply ca (Vf _ _) | apply ca (qx _ _) | refine st ?_| refine br ?_ ?_<;>intro hc| rfl) <;>conv=>whnf
 all_goals exact⟨_,rfl⟩
noncomputable def acF (a b c d:Pt):Int:=(Hl a b c d).choose
theorem vu (a b c d:Pt):Ev E 222 [a.v,b.v,c.v,d.v] ⟨vi (acF a b c d),[]⟩:=(Hl a b c d).choose_spec
theorem Mf (a b p:Pt): ∃r:Bool,Ev E 223 [a.v,b.v,p.v] ⟨.bool r,[]⟩:=by
 refine a8 (Ev.bD rfl rfl rfl ?_)
 conv=>whnf
 repeat' (first| intro g| apply ca (vu _ _ _ _) | refine st ?_| refine br ?_ ?_<;>intro hc| rfl) <;>conv=>whnf
 all_goals exact⟨_,rfl⟩
noncomputable def ag3 (a b p:Pt):Bool:=(Mf a b p).choose
theorem Ru (a b p:Pt):Ev E 223 [a.v,b.v,p.v] ⟨.bool (ag3 a b p),[]⟩:=(Mf a b p).choose_spec
theorem yp (a b c d:Pt): ∃r:Int,Ev E 184 [.agg [vi a.x,vi a.y,vi b.x,vi b.y],.agg [vi c.x,vi c.y,vi d.x,vi d.y]] ⟨vi r,[]⟩:=by
 refine a8 (Ev.bD rfl rfl rfl ?_)
 conv=>whnf
 repeat' (first| intro g| apply ca (vu a b c d) | refine st ?_| refine br ?_ ?_<;>intro hc| rfl) <;>conv=>whnf
 all_goals exact⟨_,rfl⟩
noncomputable def Rv (a b c d:Pt):Int:=(yp a b c d).choose
theorem AK (a b c d:Pt):Ev E 184 [.agg [vi a.x,vi a.y,vi b.x,vi b.y],.agg [vi c.x,vi c.y,vi d.x,vi d.y]] ⟨vi (Rv a b c d),[]⟩:=(yp a b c d).choose_spec
theorem DC (a b p:Pt): ∃r:Bool,Ev E 186 [.agg [vi a.x,vi a.y,vi b.x,vi b.y],p.v] ⟨.bool r,[]⟩:=by
 refine a8 (Ev.bD rfl rfl rfl ?_)
 conv=>whnf
 repeat' (first| intro g| apply ca (Ru a b p) | refine st ?_| refine br ?_ ?_<;>intro hc| rfl) <;>conv=>whnf
 all_goals exact⟨_,rfl⟩
noncomputable def YU (a b p:Pt):Bool:=(DC a b p).choose
theorem Hm (a b p:Pt):Ev E 186 [.agg [vi a.x,vi a.y,vi b.x,vi b.y],p.v] ⟨.bool (YU a b p),[]⟩:=(DC a b p).choose_spec
theorem Hn (a b c:Int): ∃r:Int,Ev E 429 [.lit 1 [vi a,vi b,vi c]] ⟨vi r,[]⟩:=by
 refine a8 (Ev.bD rfl rfl rfl ?_)
 conv=>whnf
 repeat' (first| intro g| refine st ?_| refine br ?_ ?_<;>intro hc| rfl) <;>conv=>whnf
 refine aL.by (fun ((i,r):Nat×Int)=> ⟨[(0,.lit 1 [vi a,vi b,vi c]),(3,vi r),(4,av (i+1))],[]⟩)
  (fun (i,_)=>i≤2) (fun (i,_)=>2 - i) (0,a) su (by simp) ?_
 rintro⟨i,r⟩ hi
 try dsimp only at hi
 rcases(by omega:i=0∨i=1∨i=2) with rfl| rfl| rfl
 ·conv=>whnf
  repeat' (first| intro g| refine st ?_| refine br ?_ ?_<;>intro hc| rfl) <;>conv=>whnf
  exact aK.mk (1,_) om (by simp) su
 ·conv=>whnf
  repeat' (first| intro g| refine st ?_| refine br ?_ ?_<;>intro hc| rfl) <;>conv=>whnf
  exact aK.mk (2,_) om (by simp) su
 ·conv=>whnf
  repeat' (first| intro g| refine st ?_| refine br ?_ ?_<;>intro hc| rfl) <;>conv=>whnf
  exact⟨_,rfl⟩
noncomputable def acG (a b c:Int):Int:=(Hn a b c).choose
theorem Vg (a b c:Int):Ev E 429 [.lit 1 [vi a,vi b,vi c]] ⟨vi (acG a b c),[]⟩:=(Hn a b c).choose_spec
theorem Ho (a b c:Int): ∃r:Int,Ev E 430 [.lit 1 [vi a,vi b,vi c]] ⟨vi r,[]⟩:=by
 refine a8 (Ev.bD rfl rfl rfl ?_)
 conv=>whnf
 repeat' (first| intro g| refine st ?_| refine br ?_ ?_<;>intro hc| rfl) <;>conv=>whnf
 refine aL.by (fun ((i,r):Nat×Int)=> ⟨[(0,.lit 1 [vi a,vi b,vi c]),(3,vi r),(4,av (i+1))],[]⟩)
  (fun (i,_)=>i≤2) (fun (i,_)=>2 - i) (0,a) su (by simp) ?_
 rintro⟨i,r⟩ hi
 try dsimp only at hi
 rcases(by omega:i=0∨i=1∨i=2) with rfl| rfl| rfl
 ·conv=>whnf
  repeat' (first| intro g| refine st ?_| refine br ?_ ?_<;>intro hc| rfl) <;>conv=>whnf
  exact aK.mk (1,_) om (by simp) su
 ·conv=>whnf
  repeat' (first| intro g| refine st ?_| refine br ?_ ?_<;>intro hc| rfl) <;>conv=>whnf
  exact aK.mk (2,_) om (by simp) su
 ·conv=>whnf
  repeat' (first| intro g| refine st ?_| refine br ?_ ?_<;>intro hc| rfl) <;>conv=>whnf
  exact⟨_,rfl⟩
noncomputable def acH (a b c:Int):Int:=(Ho a b c).choose
theorem Vh (a b c:Int):Ev E 430 [.lit 1 [vi a,vi b,vi c]] ⟨vi (acH a b c),[]⟩:=(Ho a b c).choose_spec
theorem Mg (a b c p:Pt): ∃r:Bool,Ev E 565 [a.v,b.v,c.v,p.v] ⟨.bool r,[]⟩:=by
 refine a8 (Ev.bD rfl rfl rfl ?_)
 conv=>whnf
 repeat' (first| intro g| apply ca (vt _ _ _) | apply ca (Ru _ _ _) | apply ca (Vg _ _ _) | apply ca (Vh _ _ _) | refine st ?_| refine br ?_ ?_<;>intro hc| rfl) <;>conv=>whnf
 all_goals exact⟨_,rfl⟩
noncomputable def ag4 (a b c p:Pt):Bool:=(Mg a b c p).choose
theorem Rw (a b c p:Pt):Ev E 565 [a.v,b.v,c.v,p.v] ⟨.bool (ag4 a b c p),[]⟩:=(Mg a b c p).choose_spec
theorem Mh (a b c p:Pt): ∃r:Bool,Ev E 556 [a.v,b.v,c.v,p.v] ⟨.bool r,[]⟩:=by
 refine a8 (Ev.bD rfl rfl rfl ?_)
 have hr:Ev E 181 [.lit 2 [a.v,b.v,c.v,p.v]] ⟨.bool (E8 [a,b,c,p]),[]⟩:=AJ [a,b,c,p] (by simp)
 conv=>whnf
 repeat' (first| intro g| apply ca hr| apply ca (Rw _ _ _ _) | refine st ?_| refine br ?_ ?_<;>intro hc| rfl) <;>conv=>whnf
 all_goals exact⟨_,rfl⟩
noncomputable def ag5 (a b c p:Pt):Bool:=(Mh a b c p).choose
theorem YV (a b c p:Pt):Ev E 556 [a.v,b.v,c.v,p.v] ⟨.bool (ag5 a b c p),[]⟩:=(Mh a b c p).choose_spec
end Go.AM.Dr
