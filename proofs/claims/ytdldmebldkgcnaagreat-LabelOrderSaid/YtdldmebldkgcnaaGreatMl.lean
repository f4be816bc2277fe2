/- Texts of the proof. -/
import Derived.Test.YtdldmebldkgcnaaGreatGaa
import Derived.Test.YtdldmebldkgcnaaGreatMk
set_option maxRecDepth 20000
set_option maxHeartbeats 4000000
set_option linter.unusedSimpArgs false
set_option linter.unusedVariables false
namespace Go.AM
def mk0:aY:=match JO with
 | .seq a _=>a
 | _=> .skip
def mk1:aY:=match JO with
 | .seq _ (.seq a _)=>a
 | _=> .skip
def mk5:aY:=match JO with
 | .seq _ (.seq _ (.seq _ (.seq a _)))=>a
 | _=> .skip
theorem r7 {α:Type} {c:aY} {S:SS} {σ:St} (Sh:α→SS) (P:α→Prop) (h:kW zD c S (aaN (fun _ _=>False) Sh P)) (ho:S.On σ): ∃N σ' x,exec zD N c σ=some (.normal,σ')∧P x∧(Sh x).On σ':=by
 obtain⟨N,e,σ',h1,S',h3,h4⟩:=cF h ho
 cases e with
 | normal=>
   obtain⟨x,h5,h6⟩:=h4
   exact⟨N,σ',x,h1,h5,h6.on h3⟩
 | exit=>exact h4.elim
 | ret=>exact h4.elim
theorem mB {σ:St}:SS.On ⟨[],[]⟩ σ:=⟨fun t v h=>by simp[lk] at h,fun r o h=>by simp[lk] at h⟩
theorem xA {σ:St} {T:List (Nat×V)} {O:List (Nat×Obj)} {t:Nat} {v:V} (h:σ.T t=v) (ho:SS.On ⟨T,O⟩ σ):SS.On ⟨(t,v)::T,O⟩ σ:=by
 refine⟨fun t' v' h'=> ?_,ho.2⟩
 rw[show (⟨(t,v)::T,O⟩:SS).T=(t,v)::T from rfl,fb] at h'
 split at h'
 ·rename_i e;injection h' with h';rw[←h',←e];exact h
 ·exact ho.1 t' v' h'
theorem ua {σ:St} {O:List (Nat×Obj)} {r:Nat} {o:Obj} (h:σ.O r=o) (ho:SS.On ⟨[],O⟩ σ):SS.On ⟨[],(r,o)::O⟩ σ:=by
 refine⟨fun t v h=>by simp[lk] at h,fun r' o' h'=> ?_⟩
 rw[show (⟨[],(r,o)::O⟩:SS).O=(r,o)::O from rfl,fb] at h'
 split at h'
 ·rename_i e;injection h' with h';rw[←h',←e];exact h
 ·exact ho.2 r' o' h'
theorem sV {S:SS} {σ:St} (h:S.On σ) {t:Nat} {v:V} (hl:lk S.T t=some v):σ.T t=v:=h.1 t v hl
theorem nr {S:SS} {σ:St} (h:S.On σ) {r:Nat} {o:Obj} (hl:lk S.O r=some o):σ.O r=o:=h.2 r o hl
theorem adl {σ:St} {z0 z1 z2 z3:Nat} {l0 l1 l2 l3:List V} {d:Int} (h0:σ.T 0= .agg [.lit z0 l0,.lit z1 l1,.lit z2 l2,.lit z3 l3]) (h1:σ.T 1=vi d): ∃N σ' x,exec zD N mk0 σ=some (.normal,σ')∧True∧
  SS.On ((fun p:Nat×Nat=> ⟨[(1,vi d),(2,.ptr 48 p.1 0 0),(4,.ptr 80 p.2 0 0)],[(48,⟨p.1,4,false,false,some [.agg [.lit z0 l0,.lit z1 l1,.lit z2 l2,.lit z3 l3]]⟩),(80,⟨p.2,2,false,false,some [.agg [.int .i64 0,.lit 5 []]]⟩)]⟩) x) σ':=by
 refine r7 (S:=⟨[(0,.agg [.lit z0 l0,.lit z1 l1,.lit z2 l2,.lit z3 l3]),(1,vi d)],[]⟩) _ _ ?_ ?_
 ·(conv=>whnf);repeat' ((first| intro g| refine st ?_| refine br ?_ ?_<;>intro hc| exact rfl) <;>conv=>whnf)
  rename_i yZ
  exact oX.mk (yZ,g) trivial su
 ·exact xA h0 (xA h1 mB)
theorem adm {σ:St} {g2 g4:Nat} {d:Int} {o48 PZ:Obj} (h1:σ.T 1=vi d) (h2:σ.T 2= .ptr 48 g2 0 0) (h4:σ.T 4= .ptr 80 g4 0 0) (h48:σ.O 48=o48) (XE:σ.O 80=PZ): ∃N σ' x,exec zD N mk1 σ=some (.normal,σ')∧True∧
  SS.On ((fun g:Nat=> ⟨[(1,vi d),(2,.ptr 48 g2 0 0),(4,.ptr 80 g4 0 0),(5,.ptr 96 g 0 0)],[(48,o48),(80,PZ),(96,⟨g,2,false,false,some [.agg [vi d,.nils]]⟩)]⟩) x) σ':=by
 refine r7 (S:=⟨[(1,vi d),(2,.ptr 48 g2 0 0),(4,.ptr 80 g4 0 0)],[(48,o48),(80,PZ)]⟩) _ _ ?_ ⟨(xA h1 (xA h2 (xA h4 mB))).1,(ua h48 (ua XE mB)).2⟩
 (conv=>whnf);repeat' ((first| intro g| refine st ?_| refine br ?_ ?_<;>intro hc| exact rfl) <;>conv=>whnf)
 exact oX.mk g trivial su
def oB (d:Int) (g:Nat) (evs:List V):V:= .agg [vi d,if evs=[] then .nils else .sl 304 g 0 evs.length]
theorem ZN {σ:St} {c0 a c2 c3 c4:Int} {v5:V} {PZ o96 KY:Obj} (h12:σ.T 12= .agg [.int .i64 c0,.int .i64 a,.int .i64 c2,.int .i64 c3,.int .i64 c4]) (h5:σ.T 5=v5) (XE:σ.O 80=PZ) (h96:σ.O 96=o96) (S8:σ.O 304=KY): ∃N σ' x,exec zD N FF σ=some (.normal,σ')∧True∧
  SS.On ((fun g:Nat=> ⟨[(5,v5),(6,.ptr 112 g 0 0)],[(80,PZ),(96,o96),(304,KY),(112,⟨g,5,false,false,some [.agg [.int .i64 c0,.int .i64 a,.int .i64 c2,.int .i64 c3,.int .i64 c4]]⟩)]⟩) x) σ':=by
 refine r7 (S:=⟨[(12,.agg [.int .i64 c0,.int .i64 a,.int .i64 c2,.int .i64 c3,.int .i64 c4]),(5,v5)],[(80,PZ),(96,o96),(304,KY)]⟩) _ _ ?_ ⟨(xA h12 (xA h5 mB)).1,(ua XE (ua h96 (ua S8 mB))).2⟩
 (conv=>whnf);repeat' ((first| intro g| refine st ?_| refine br ?_ ?_<;>intro hc| exact rfl) <;>conv=>whnf)
 exact oX.mk g trivial su
theorem Wk {σ:St} {c0 a c2 c3 c4 d:Int} {g5 g6 gs:Nat} {evs:List V} {PZ:Obj} (hp:V.al evs=true) (hb:evs.all (aV · 5)=true) (hl:evs.length< 1000)
  (h5:σ.T 5= .ptr 96 g5 0 0) (h6:σ.T 6= .ptr 112 g6 0 0) (adn:σ.O 112=⟨g6,5,false,false,some [.agg [.int .i64 c0,.int .i64 a,.int .i64 c2,.int .i64 c3,.int .i64 c4]]⟩)
  (XE:σ.O 80=PZ) (h96:σ.O 96=⟨g5,2,false,false,some [oB d gs evs]⟩) (S8:evs≠[]→σ.O 304=⟨gs,5,true,false,some evs⟩): ∃N σ' x,exec zD N zk σ=some (.normal,σ')∧True∧
  SS.On ((fun g:Nat=> ⟨[],[(80,PZ),(96,⟨g5,2,false,false,some [oB d g (evs++[.agg [.int .i64 c0,.int .i64 a,.int .i64 c2,.int .i64 c3,.int .i64 c4]])]⟩),(304,⟨g,5,true,false,some (evs++[.agg [.int .i64 c0,.int .i64 a,.int .i64 c2,.int .i64 c3,.int .i64 c4]])⟩)]⟩) x) σ':=by
 by_cases h:evs=[]
 ·subst h
  have hv: ∀g,oB d g ([]++[.agg [.int .i64 c0,.int .i64 a,.int .i64 c2,.int .i64 c3,.int .i64 c4]])= .agg [vi d,.sl 304 g 0 1]:=fun g=>by unfold oB;rw[if_neg abW];rfl
  refine r7 (S:=⟨[(5,.ptr 96 g5 0 0),(6,.ptr 112 g6 0 0)],[(112,⟨g6,5,false,false,some [.agg [.int .i64 c0,.int .i64 a,.int .i64 c2,.int .i64 c3,.int .i64 c4]]⟩),(80,PZ),(96,⟨g5,2,false,false,some [.agg [vi d,.nils]]⟩)]⟩) _ _ ?_ ?_
  ·(conv=>whnf);repeat' ((first| intro g| refine st ?_| refine br ?_ ?_<;>intro hc| exact rfl) <;>conv=>whnf)
   exact oX.mk g trivial (by simp only[hv];exact su)
  ·exact⟨(xA h5 (xA h6 mB)).1,(ua adn (ua XE (ua h96 mB))).2⟩
 ·refine r7 (S:=⟨[(5,.ptr 96 g5 0 0),(6,.ptr 112 g6 0 0)],[(112,⟨g6,5,false,false,some [.agg [.int .i64 c0,.int .i64 a,.int .i64 c2,.int .i64 c3,.int .i64 c4]]⟩),(80,PZ),(96,⟨g5,2,false,false,some [.agg [vi d,.sl 304 gs 0 evs.length]]⟩),(304,⟨gs,5,true,false,some evs⟩)]⟩) _ _ ?_ ?_
  ·have hv: ∀g,oB d g (evs++[.agg [.int .i64 c0,.int .i64 a,.int .i64 c2,.int .i64 c3,.int .i64 c4]])= .agg [vi d,.sl 304 g 0 (evs.length+1)]:=fun g=>by unfold oB;rw[if_neg abW];simp
   (conv=>whnf);repeat' ((first| intro g| refine st ?_| refine br ?_ ?_<;>intro hc| exact rfl) <;>conv=>whnf)
   exact oX.mk g trivial (by simp only[hv];exact su)
  ·have ahz:σ.O 96=⟨g5,2,false,false,some [.agg [vi d,.sl 304 gs 0 evs.length]]⟩:=by rw[h96];unfold oB;rw[if_neg h]
   exact⟨(xA h5 (xA h6 mB)).1,(ua adn (ua XE (ua ahz (ua (S8 h) mB)))).2⟩
theorem ado {σ:St} {g4 g5 g:Nat} {d:Int} {evs:List V} {KY:Obj} (h4:σ.T 4= .ptr 80 g4 0 0) (h5:σ.T 5= .ptr 96 g5 0 0) (XE:σ.O 80=⟨g4,2,false,false,some [.agg [.int .i64 0,.lit 5 []]]⟩) (h96:σ.O 96=⟨g5,2,false,false,some [oB d g evs]⟩) (S8:σ.O 304=KY): ∃N σ' z,exec zD N mk5 σ=some (.normal,σ')∧True∧
  SS.On ((fun _:Unit=> ⟨[(4,.ptr 80 g4 0 0)],[(80,⟨g4,2,false,false,some [oB d g evs]⟩),(304,KY)]⟩) z) σ':=by
 refine r7 (S:=⟨[(4,.ptr 80 g4 0 0),(5,.ptr 96 g5 0 0)],[(80,⟨g4,2,false,false,some [.agg [.int .i64 0,.lit 5 []]]⟩),(96,⟨g5,2,false,false,some [oB d g evs]⟩),(304,KY)]⟩) _ _ ?_ ?_
 ·unfold oB
  split
  ·(conv=>whnf);repeat' ((first| intro g| refine st ?_| refine br ?_ ?_<;>intro hc| exact rfl) <;>conv=>whnf)
   exact oX.mk () trivial su
  ·(conv=>whnf);repeat' ((first| intro g| refine st ?_| refine br ?_ ?_<;>intro hc| exact rfl) <;>conv=>whnf)
   exact oX.mk () trivial su
 ·exact⟨(xA h4 (xA h5 mB)).1,(ua XE (ua h96 (ua S8 mB))).2⟩
end Go.AM
namespace Go.AM
open Go Go.RowKit Go.Proofs Go.Proofs.YtdldmebldkgcnaaGreat
noncomputable def Im:aY→St→Option (aR×St):=fun c σ=>by
 classical exact if h: ∃r N,exec zD N c σ=some r then some h.choose else none
theorem MF {c:aY} {σ:St} {r:aR×St} {N:Nat} (h:exec zD N c σ=some r):Im c σ=some r:=by
 have hx: ∃r N,exec zD N c σ=some r:=⟨r,N,h⟩
 unfold Im
 rw[dif_pos hx]
 obtain⟨N',h'⟩:=hx.choose_spec
 have k1:=cE (ajv N N') _ _ _ h
 have k2:=cE (ajj N N') _ _ _ h'
 rw[k1] at k2
 injection k2 with k2
 rw[←k2]
theorem Wl {c:aY} {σ:St} {r:aR×St} (h:Im c σ=some r): ∃N,exec zD N c σ=some r:=by
 unfold Im at h
 split at h
 ·rename_i hx
  injection h with h
  subst h
  exact hx.choose_spec
 ·simp at h
def MG:Hints:={lits:=[(4,[0,5])],n:=21}
structure Ea (X:TrEnv) (fn:Func):Prop where
 body: ∃i0 i1 i2 i5 ib FG KZ A B iA o1 o2 o3,fn.body=some (.seq (.region i0 FG false) (.seq (.region i1 KZ false) (.seq (.seq (.region i2 #[o1,o2,o3] false) (.block ib (.rangeFunc (.tmp 11) #[12,13] A B))) (.seq (.region i5 iA false) .ret))))∧
  cD X MG (.region i0 FG false)=some mk0∧cD X MG (.region i1 KZ false)=some mk1∧cD X MG A=some FF∧cD X MG B=some zk∧cD X MG (.region i5 iA false)=some mk5∧
  nR X MG #[o1,o2,o3] o1=some ⟨some 9,.load true 4 (.tmp 2),none,[]⟩∧nR X MG #[o1,o2,o3] o2=some ⟨some 10,.move (.tmp 1),none,[]⟩∧o3.dst=some 11∧o3.guard=none∧
  (∀c,o3.op≠ .defer c)∧ ∀ (a:Go.Act) (w:World),(execOp a.eval o3).run X.P w= .ok (.enter 47 #[a.eval (.tmp 9),a.eval (.tmp 10)]) w
 res:j0 X fn.results.toList=some [.cell 4 true 2]
 tmps:fn.ntmps=21
theorem MH {Y:Ctx}:MJ Y zD:=fun g F caps xs h=>by simp[zD] at h
def PkO (g4 g5:Nat) (d:Int) (r:List V) (k:Nat) (O:Nat→Obj):Prop:=
 ∃gs,O 80=⟨g4,2,false,false,some [.agg [.int .i64 0,.lit 5 []]]⟩∧O 96=⟨g5,2,false,false,some [oB d gs (r.take k)]⟩∧(r.take k≠[]→O 304=⟨gs,5,true,false,some (r.take k)⟩)∧(r.take k=[]→(O 304).es=none)∧ ∀x,x≠80→x≠96→x≠304→(O x).es=none
def oz (O:Nat→Obj):Nat→Obj:=fun x=>if x=80∨x=96∨x=304 then O x else {O x with es:=none}
def oC (O:Nat→Obj):Nat→Obj:=fun x=>if x=80∨x=96 then O x else {O x with es:=none}
theorem Wm (O:Nat→Obj):iz O (oz O):=fun r=>by
 unfold oz;split
 ·exact .inl rfl
 ·exact .inr rfl
theorem MK (O:Nat→Obj):iz O (oC O):=fun r=>by
 unfold oC;split
 ·exact .inl rfl
 ·exact .inr rfl
def S9 (e:V):Prop:= ∃c0 a c2 c3 c4,e=Ih c0 a c2 c3 c4
theorem Eb {C:Nat→List V→Option eZ} {d:Int}: ∀ {n:Nat} {m:V} {b:Int} {evs r:List V},gH C d n m b evs=some r→(∀e ∈ evs,S9 e)→(∀e ∈ r,S9 e)∧r.length≤evs.length+n
 | 0,_,_,evs,r,h,he=>by
   simp only[gH,aiT] at h
   subst h;exact⟨he,abV⟩
 | n+1,m,b,evs,r,h,he=>by
   obtain⟨c0,a,c2,c3,c4,ok,h1,h2⟩:=Bz h
   rcases h2 with⟨_,rfl⟩ | ⟨_,m',err,_,_,h3⟩
   ·exact⟨he,abV⟩
   ·rcases h3 with⟨_,h3⟩ | ⟨_,rfl⟩
    ·have:=Eb h3 (by
      intro e hm
      rcases ai6.1 hm with hm| hm
      ·exact he e hm
      ·simp only[ajC] at hm;exact⟨_,_,_,_,_,hm⟩)
     refine⟨this.1,?_⟩
     have:=this.2
     simp at this;omega
    ·exact⟨he,abV⟩
theorem qL: ∀ {l:List V},(∀e ∈ l,S9 e)→V.al l=true∧l.all (aV · 5)=true∧V.np l=true
 | [],_=> ⟨rfl,rfl,rfl⟩
 | e::l,h=>by
   obtain⟨c0,a,c2,c3,c4,rfl⟩:=h e abW
   obtain⟨h1,h2,h3⟩:=qL (l:=l) fun e he=>h e (by simp[he])
   refine⟨?_,?_,?_⟩
   ·simp only[V.al,h1,ajy];rfl
   ·simp only[aja,h2,ajy];rfl
   ·simp only[V.np,h3,ajy];rfl
theorem Wn {g4 g5:Nat} {d:Int} {r:List V} (hr: ∀e ∈ r,S9 e) (k:Nat) (O:Nat→Obj) (h:PkO g4 g5 d r k O):MB O:=by
 obtain⟨gs,h1,h2,h3,h4,h5⟩:=h
 intro x es bq
 by_cases e1:x=80
 ·subst e1;rw[h1] at bq ⊢;simp only[aiT] at bq;subst bq;exact⟨by show 0 < 2;decide,rfl⟩
 by_cases e2:x=96
 ·subst e2;rw[h2] at bq ⊢;simp only[aiT] at bq;subst bq
  refine⟨by show 0 < 2;decide,?_⟩
  unfold oB;split<;>rfl
 by_cases e3:x=304
 ·subst e3
  by_cases he:r.take k=[]
  ·rw[h4 he] at bq;simp at bq
  ·rw[h3 he] at bq ⊢;simp only[aiT] at bq;subst bq
   exact⟨by show 0 < 5;decide,(qL fun e hm=>hr e (ajh hm)).2.2⟩
 rw[h5 x e1 e2 e3] at bq;simp at bq
theorem adp {g4 g5:Nat} {d:Int} {r:List V} (k:Nat) (O:Nat→Obj) (h:PkO g4 g5 d r k O): ∀x,(O x).es.isSome=true→(O x).fz=false:=by
 obtain⟨gs,h1,h2,h3,h4,h5⟩:=h
 intro x hx
 by_cases e1:x=80
 ·subst e1;rw[h1]
 by_cases e2:x=96
 ·subst e2;rw[h2]
 by_cases e3:x=304
 ·subst e3
  by_cases he:r.take k=[]
  ·rw[h4 he] at hx;simp at hx
  ·rw[h3 he]
 rw[h5 x e1 e2 e3] at hx;simp at hx
theorem Ta {g4 g5:Nat} {d:Int} {r:List V} (hr: ∀e ∈ r,S9 e) (hl:r.length< 1000) {T:Nat→V} (hT5:T 5= .ptr 96 g5 0 0) (k:Nat) (x:List V) (O:Nat→Obj) (hx: (r.map fun e=> [e,V.any])[k]? =some x) (h:PkO g4 g5 d r k O):
  ∃σ1 σ2 O',Im FF ⟨jQ T [12,13] x,O⟩=some (.normal,σ1)∧Im zk σ1=some (.normal,σ2)∧iz σ2.O O'∧PkO g4 g5 d r (k+1) O':=by
 obtain⟨gs,h1,h2,h3,h4,h5⟩:=h
 rw[List.getElem?_map,aiU] at hx
 obtain⟨e,he,rfl⟩:=hx
 obtain⟨c0,a,c2,c3,c4,rfl⟩:=hr e (List.mem_of_getElem? he)
 have hk:r.take (k+1)=r.take k++[Ih c0 a c2 c3 c4]:=by
  rw[ajt,he];rfl
 obtain⟨N1,σ1,g6,k1,_,k2⟩:=ZN (σ:=⟨jQ T [12,13] [Ih c0 a c2 c3 c4,.any],O⟩) (c0:=c0) (a:=a) (c2:=c2) (c3:=c3) (c4:=c4) (v5:= .ptr 96 g5 0 0) rfl (by simpa [jQ,da] using hT5) h1 h2 rfl
 obtain⟨N2,σ2,g,q1,_,q2⟩:=Wk (σ:=σ1) (c0:=c0) (a:=a) (c2:=c2) (c3:=c3) (c4:=c4) (d:=d) (gs:=gs) (evs:=r.take k) (g5:=g5) (g6:=g6) (qL fun e hm=>hr e (ajh hm)).1 (qL fun e hm=>hr e (ajh hm)).2.1 (by simp;omega)
  (sV k2 rfl) (sV k2 rfl) (nr k2 rfl) (nr k2 (r:=80) rfl) (nr k2 rfl) (fun cL=>by rw[nr k2 (r:=304) rfl];exact h3 cL)
 have cL:r.take (k+1)≠[]:=by rw[hk];simp
 refine⟨σ1,σ2,oz σ2.O,MF k1,MF q1,Wm _,g,?_,?_,?_,fun h=>absurd h cL,?_⟩
 ·show σ2.O 80=_
  exact nr q2 rfl
 ·show σ2.O 96=_
  rw[hk]
  exact nr q2 rfl
 ·intro _
  show σ2.O 304=_
  rw[hk]
  exact nr q2 rfl
 ·intro x e1 e2 e3
  unfold oz
  rw[if_neg (by simp[e1,e2,e3])]
theorem BB {w:World} {φ:Nat→Row} {O:Nat→Obj}:Le ⟨w,φ,O⟩ ⟨w,φ,oC O⟩:=(MK O).le w φ
theorem ZO {X:Ctx} {μ:Mu} (ho:bk X μ): ∀b,Mu.own μ b→b<μ.w.heap.size:=by
 rintro b ⟨r,h1,h2,h3,h4⟩
 have:=tX ho h1 h3
 omega
theorem Wo {X:Ctx} {μ:Mu} {d:Int} {v:Value} (h:aj X μ (.int .i64 d) v):v= .int .i64 d:=by simpa [aj] using h
theorem OT {X:TrEnv} (hP:X.P=Tryz.prog) (Jq:X.P.follows .mixedOrders=true) (sF: ∀t1 t2 k,X.qM t1=some k→X.qM t2=some k→t1=t2) (hsh:Ea X Tryz.f27) (h74:X.fH 74=some 644) (h75:X.fH 75=some 645)
   {C:bo} (hC: ∀f F vs res,X.fH F=some f→C f vs=some res→bJ X F vs res) {args:List V} {res:eZ} (h:zO C args=some res):bJ X 27 args res:=by
 obtain⟨⟨i0,i1,i2,i5,ib,FG,KZ,cA,cB,iA,o1,o2,o3,gv,t0,t1,tA,tB,t5,to1,to2,hd3,Wp,ahA,hx3⟩,jj,H8⟩:=hsh
 unfold zO at h
 split at h
 rotate_left
 ·simp at h
 rename_i m d
 split at h
 rotate_left
 ·simp at h
 rename_i hm
 rw[aiU] at h
 obtain⟨r,ah,rfl⟩:=h
 obtain⟨kY,ZP⟩:=Eb ah abW
 have ahB:r.length< 1000:=by simp at ZP;omega
 have ns:V.al [m,.int .i64 d]=true:=by simp[V.al,V.aw,iV hm]
 intro B K w φ0 vals D1 hv ho
 have hO: (enter [m,.int .i64 d]).O=jK:=yA ns
 have hT0: (enter [m,.int .i64 d]).T 0=m:=by rw[ef ns];rfl
 have hT1: (enter [m,.int .i64 d]).T 1= .int .i64 d:=by rw[ef ns];rfl
 have mS:X.P.funcs[27]? =some Tryz.f27:=by rw[hP];exact Tryz.func27
 rw[pk mS aiQ gv]
 simp only[ub]
 refine(callsIn_wide (n:=0)).1 (callsIn_of_wp_marks (F:=Fr none) mS gv trivial ?_ rfl)
 have bI:vals.toArray.size≤Tryz.f27.ntmps:=by rw[H8];simp[D1]
 have kG:jY ⟨X,B,K⟩ ⟨w,φ0,(enter [m,.int .i64 d]).O⟩ ⟨Tryz.f27.ntmps,w.heap.size,none⟩ (enter [m,.int .i64 d]) {tmps:=vals.toArray++Array.replicate (Tryz.f27.ntmps - vals.toArray.size) undef,defers:=[]} w:=by
   refine⟨Marks.nil (aiZ _) abW,by simp at bI ⊢;omega,φ0,⟨fun t=> ?_,ho⟩,Le.refl _⟩
   by_cases ht:t<vals.length
   · have e1: (vals.toArray++Array.replicate (Tryz.f27.ntmps - vals.toArray.size) undef).getD t undef=vals[t]:=by
      simp[aj5,ht]
     rw[e1]
     exact hv t _ (aiW ht)
   · have e1: (vals.toArray++Array.replicate (Tryz.f27.ntmps - vals.toArray.size) undef).getD t undef=undef:=by
      simp[aj5,ht,aku]
      split<;>rfl
     have e2: (enter [m,.int .i64 d]).T t=dO:=by
      have: [m,V.int .i64 d][t]? =none:=ajN abV
      simp[enter,this]
     rw[e1,e2]
     exact r8
 generalize hσ0:enter [m,.int .i64 d]=σ0 at kG hT0 hT1 hO hv ho
 generalize ({tmps:=vals.toArray++Array.replicate (Tryz.f27.ntmps - vals.toArray.size) undef,defers:=[]}:Go.Act)=a0 at kG ⊢
 have H:=ML (Y:=⟨X,B,K⟩) sF
 have Wq: (⟨X,B,K⟩:Ctx).P.follows .mixedOrders=true:=Jq
 obtain⟨z0,l0,z1,l1,z2,l2,z3,l3,Di⟩:=tZ hm
 obtain⟨N0,σ1,⟨yZ,Mj⟩,e0,_,q0⟩:=adl (σ:=σ0) (hT0.trans Di) hT1
 refine wpIn_seq (wpIn_mono (mC (X:=⟨X,B,K⟩) Wq MH (h:=MG) N0 (fun k _=>FH sF k) (n:=⟨Tryz.f27.ntmps,w.heap.size,none⟩) H8.symm _ _ _ _ _ _ _ t0 e0 kG) ?_)
 rintro ex a1 w1 ⟨rfl,iv⟩
 obtain⟨N1,σ2,xg,e1,_,q1⟩:=adm (σ:=σ1) (sV q0 rfl) (sV q0 rfl) (sV q0 rfl) (nr q0 (r:=48) rfl) (nr q0 (r:=80) rfl)
 refine wpIn_seq (wpIn_mono (mC (X:=⟨X,B,K⟩) Wq MH (h:=MG) N1 (fun k _=>FH sF k) (n:=⟨Tryz.f27.ntmps,w.heap.size,none⟩) H8.symm _ _ _ _ _ _ _ t1 e1 iv) ?_)
 rintro ex a2 w2 ⟨rfl,mn⟩
 have k2:σ2.T 2= .ptr 48 yZ 0 0:=sV q1 rfl
 have k1:σ2.T 1=vi d:=sV q1 rfl
 have k4:σ2.T 4= .ptr 80 Mj 0 0:=sV q1 rfl
 have k5:σ2.T 5= .ptr 96 xg 0 0:=sV q1 rfl
 have k48:σ2.O 48=⟨yZ,4,false,false,some [m]⟩:=by rw[Di];exact nr q1 rfl
 have k80:σ2.O 80=⟨Mj,2,false,false,some [.agg [.int .i64 0,.lit 5 []]]⟩:=nr q1 rfl
 have k96:σ2.O 96=⟨xg,2,false,false,some [.agg [vi d,.nils]]⟩:=nr q1 rfl
 clear q0 q1 e0 e1
 refine wpIn_seq (wpIn_seq (wpIn_region ?_))
 have adq:List.range (#[o1,o2,o3]:Array Oper).size=[0,1,2]:=rfl
 rw[adq,wpOpsIn_cons]
 have ahC:dV zD ZQ ⟨some 9,.load true 4 (.tmp 2),none,[]⟩ σ2=some (σ2.put (some 9) m):=by
   rw[Di] at k48 ⊢
   simp[dV,cP,aM,ev,eP,Act.run,bu,k2,k48,part]
 refine mD H (n:=⟨Tryz.f27.ntmps,w.heap.size,none⟩) (h:=MG) (o:=o1) rfl to1 H8.symm mn ahC fun a3 w3 Cn=> ?_
 rw[wpOpsIn_cons]
 have ahD:dV zD ZQ ⟨some 10,.move (.tmp 1),none,[]⟩ (σ2.put (some 9) m)=some ((σ2.put (some 9) m).put (some 10) (vi d)):=by
   rw[←k1];rfl
 refine mD H (n:=⟨Tryz.f27.ntmps,w.heap.size,none⟩) (h:=MG) (o:=o2) rfl to2 H8.symm Cn ahD fun a4 w4 hs4=> ?_
 rw[wpOpsIn_cons]
 have Io: (#[o1,o2,o3]:Array Oper)[2]? =some o3:=rfl
 simp only[wpOpIn,Io]
 rw[if_pos (by simp[Region.wanted,Wp])]
 refine r6 ahA ?_
 unfold Oper.wp
 rw[hx3,Oper.upon_enter]
 obtain⟨adr,ZR,φ4,hr4,ahE⟩:=hs4
 obtain⟨s0,s1,s2,s3,Fa⟩:=D7 hm (hr4.tmps 9)
 have hdv:=Wo (hr4.tmps 10)
 have hmr:aj ⟨X,B,K⟩ ⟨w4,φ4,σ2.O⟩ m (mapVal s0 s1 s2 s3):=by rw[←Fa];exact hr4.tmps 9
 have ea: (#[a4.eval (.tmp 9),a4.eval (.tmp 10)]:Array Value)= #[.agg #[.slice s0.a s0.n s0.c,.slice s1.a s1.n s1.c,.slice s2.a s2.n s2.c,.slice s3.a s3.n s3.c],.int .i64 d]:=by
   have e1:a4.eval (.tmp 9)=mapVal s0 s1 s2 s3:=by simpa [Go.Act.eval] using Fa
   have e2:a4.eval (.tmp 10)= .int .i64 d:=by simpa [Go.Act.eval] using hdv
   rw[e1,e2];rfl
 rw[ea,hP]
 refine Calls.mono (KU w4 _ _ _ _ d) ?_
 rintro e w5 ⟨rfl,hw5⟩
 rw[←hP]
 simp only[wpOpsIn]
 have UI: ∀ (W:World) (o:Go.Obj),(W.alloc o).heap.size=W.heap.size+1:=fun W o=>World.size_alloc _ _
 have ads:w4.grownBy w5 none:=by
   rw[hw5]
   have g1:=World.grownBy_alloc w4 (.cells #[.slice s0.a s0.n s0.c,.slice s1.a s1.n s1.c,.slice s2.a s2.n s2.c,.slice s3.a s3.n s3.c] 30) none
   have g2:=World.grownBy_alloc (w4.alloc (.cells #[.slice s0.a s0.n s0.c,.slice s1.a s1.n s1.c,.slice s2.a s2.n s2.c,.slice s3.a s3.n s3.c] 30)) (.cells #[.int .i64 d] 3) none
   exact⟨g2.os.trans g1.os,g2.tape.trans g1.tape,g2.output.trans g1.output,ajb g1.size g2.size,fun k hk h=> (g2.block k (ai2 hk g1.size) h).trans (g1.block k hk h)⟩
 have H5:w5.heap[w4.heap.size]? =some (.cells #[.slice s0.a s0.n s0.c,.slice s1.a s1.n s1.c,.slice s2.a s2.n s2.c,.slice s3.a s3.n s3.c] 30):=by
   rw[hw5]
   exact((World.grownBy_alloc (w4.alloc _) _ none).block _ (by rw[UI];omega) abW).trans (World.alloc_heap_new _ _)
 have PY:w5.heap[w4.heap.size+1]? =some (.cells #[.int .i64 d] 3):=by
   rw[hw5,←UI w4]
   exact World.alloc_heap_new _ _
 have hs5:w5.heap.size=w4.heap.size+2:=by rw[hw5,UI,UI]
 have ZS:bk ⟨X,B,K⟩ ⟨w4,φ4,oC σ2.O⟩:=(MK _).bg hr4.bg
 obtain⟨XF,adt⟩:=MM (μ:=⟨w4,φ4,oC σ2.O⟩) ads ZS
 have hU:=ZO ZS
 obtain⟨T',Yl⟩: ∃T':Nat→V,T'=fun t=>if t=4 then .ptr 80 Mj 0 0 else if t=5 then .ptr 96 xg 0 0 else .any:=⟨_,rfl⟩
 have XG:=po (X:=⟨X,B,K⟩) (dst:=o3.dst) (v:= .any) (val:= .func (.func 73) #[] #[.pointer (some ⟨w4.heap.size,0,none⟩),.pointer (some ⟨w4.heap.size+1,0,none⟩)]) hr4 (BB.trans XF) adt (by simp[aj]) (by rw[hd3];simp;rw[ZR];show 11 <Tryz.f27.ntmps;rw[H8];decide) (oC σ2.O)
 have e11: (a4.put o3.dst (.func (.func 73) #[] #[.pointer (some ⟨w4.heap.size,0,none⟩),.pointer (some ⟨w4.heap.size+1,0,none⟩)])).eval (.tmp 11)= .func (.func 73) #[] #[.pointer (some ⟨w4.heap.size,0,none⟩),.pointer (some ⟨w4.heap.size+1,0,none⟩)]:=by
   rw[hd3]
   have:11 <a4.tmps.size:=by rw[ZR];show 11 <Tryz.f27.ntmps;rw[H8];decide
   simp[Go.Act.eval,Go.Act.put,this]
 have adu:Marks ⟨Tryz.f27.ntmps,w.heap.size,none⟩ w4 (a4.put o3.dst (.func (.func 73) #[] #[.pointer (some ⟨w4.heap.size,0,none⟩),.pointer (some ⟨w4.heap.size+1,0,none⟩)])).defers:=by rw[put_defers];exact adr
 have ahF: (a4.put o3.dst (.func (.func 73) #[] #[.pointer (some ⟨w4.heap.size,0,none⟩),.pointer (some ⟨w4.heap.size+1,0,none⟩)])).tmps.size=Tryz.f27.ntmps:=by rw[mE];exact ZR
 generalize a4.put o3.dst (.func (.func 73) #[] #[.pointer (some ⟨w4.heap.size,0,none⟩),.pointer (some ⟨w4.heap.size+1,0,none⟩)])=a5 at*
 have adv:Rel ⟨X,B,K⟩ T' a5 ⟨w5,φ4,oC σ2.O⟩:=by
   refine⟨fun t=> ?_,adt⟩
   rw[Yl]
   have h4:=XG.tmps 4
   have h5:=XG.tmps 5
   rw[hd3] at h4 h5
   by_cases e4:t=4
   · subst e4
     have: (St.put ⟨((σ2.put (some 9) m).put (some 10) (vi d)).T,oC σ2.O⟩ (some 11) .any).T 4= .ptr 80 Mj 0 0:=k4
     rw[this] at h4
     exact h4
   · by_cases e5:t=5
     ·subst e5
      have: (St.put ⟨((σ2.put (some 9) m).put (some 10) (vi d)).T,oC σ2.O⟩ (some 11) .any).T 5= .ptr 96 xg 0 0:=k5
      rw[this] at h5
      exact h5
     ·simp only[if_neg e4,if_neg e5]
      simp[aj]
 have hP0:PkO Mj xg d r 0 (oC σ2.O):=by
   refine⟨0,k80,k96,fun h=>absurd rfl h,fun _=>rfl,fun x e1 e2 e3=> ?_⟩
   unfold oC
   rw[if_neg (by simp[e1,e2])]
 have cok: ∀ {c:Code} {ac:aY},cD X MG c=some ac→ ∀l,Bu ⟨X,B,K⟩ ⟨Tryz.f27.ntmps,0,some l⟩ c Im ac:=fun {c ac} ht l σ σ' e μ0 a w hx hs=>by
   obtain⟨N,hN⟩:=Wl hx
   exact mC (X:=⟨X,B,K⟩) Wq MH (h:=MG) N (fun k _=>FH sF k) (n:=⟨Tryz.f27.ntmps,0,some l⟩) H8.symm c ac σ σ' e a w ht hN hs
 have qJ:=Il (X:=X) hP hC h74 h75 (B:=B) (K:=K) (w0:=w4) (d:=d) (m:=m) (s0:=s0) (s1:=s1) (s2:=s2) (s3:=s3) (r:=r) hm ah (φ:=φ4) (O0:=oC σ2.O) (aj.mono BB hmr) hU (w:=w5) (Bm:=w4.heap.size) (Bd:=w4.heap.size+1) (aiZ _) abV H5 PY (fun b hb=>ads.block b hb abW)
 refine wpIn_block (wpIn_mono (Fx (X:=⟨X,B,K⟩) (n:=⟨Tryz.f27.ntmps,w.heap.size,none⟩) (g:= .tmp 11) (ps:= #[12,13]) (rec:=Im) (ta:=FF) (tb:=zk) (cok tA) (cok tB) (μ0:=⟨w4,φ4,oC σ2.O⟩) (T:=T') (Pk:=PkO Mj xg d r) hP0 adu ZS rfl ahF adv XF
   (by rw[show (⟨Tryz.f27.ntmps,w.heap.size,none⟩:Fp).tm=21 from H8];simp) e11 (fun args w=>pk (by rw[hP];exact Tryz.func73) aiQ rfl args w) (by intro x hx;simp at hx;obtain⟨e,_,rfl⟩:=hx;rfl)
   (by intro t;rw[Yl];by_cases e4:t=4 <;>by_cases e5:t=5 <;>simp[e4,e5,V.flat]) (Wn kY) (fun k x O hx hp=>Ta kY ahB (by rw[Yl];rfl) k x O hx hp)
   (by rintro b (rfl| rfl);exact⟨abV,fun h=>by have:=hU _ h;exact absurd this (Nat.lt_irrefl _),aiZ _⟩;exact⟨abV,fun h=>by have:=hU _ h;have h9:w4.heap.size+1 <w4.heap.size:=this;omega,Nat.le_succ _⟩) adp qJ) ?_)
 rintro ex a6 w6 ⟨rfl,O6,hp6,hs6⟩
 obtain⟨adw,ahG,φ6,hr6,ahH⟩:=hs6
 have ahI:jY ⟨X,B,K⟩ ⟨w,φ0,σ0.O⟩ ⟨Tryz.f27.ntmps,w.heap.size,none⟩ ⟨T',O6⟩ a6 w6:=⟨adw,ahG,φ6,hr6,ahE.trans (BB.trans ahH)⟩
 obtain⟨gs,p80,p96,adx,_,_⟩:=hp6
 rw[show r.take (r.map fun e=> [e,V.any]).length=r by simp] at p96 adx
 obtain⟨N5,σ7,_,e5,_,q5⟩:=ado (σ:=⟨T',O6⟩) (g4:=Mj) (g5:=xg) (by rw[Yl];rfl) (by rw[Yl];rfl) p80 p96 rfl
 refine wpIn_seq (wpIn_mono (mC (X:=⟨X,B,K⟩) Wq MH (h:=MG) N5 (fun k _=>FH sF k) (n:=⟨Tryz.f27.ntmps,w.heap.size,none⟩) H8.symm _ _ _ _ _ _ _ t5 e5 ahI) ?_)
 rintro ex a7 w7 ⟨rfl,hs7⟩
 refine wpIn_ret ?_
 obtain⟨ady,aiF,φ7,hr7,ahJ⟩:=hs7
 have hro:eC σ7 [.cell 4 true 2]=some [oB d gs r]:=by
   have x1:σ7.T 4= .ptr 80 Mj 0 0:=sV q5 rfl
   have x2:σ7.O 80=⟨Mj,2,false,false,some [oB d gs r]⟩:=nr q5 rfl
   simp[eC,ml,x1,x2,part,oB]
 have ahK:σ7.O 304=O6 304:=nr q5 (r:=304) rfl
 show LeavesInM (Fr none) 0 X.P Tryz.f27 a7.tmps _ a7.defers .returning w7
 refine qN (fun w'=>Rel ⟨X,B,K⟩ σ7.T a7 ⟨w',φ7,σ7.O⟩∧Le ⟨w,φ0,σ0.O⟩ ⟨w',φ7,σ7.O⟩) (fun w1 D h1 h2 ⟨hr,hle⟩=> ⟨⟨fun t=>aj.cq (iU (μ:=⟨w1,φ7,σ7.O⟩) h2 rfl rfl) (hr.tmps t),xB hr.bg h2⟩,FI hle h1⟩) (fun w' ⟨hr,qO⟩=> ?_) ady ⟨hr7,ahJ⟩
 obtain⟨Tb,r1,r2⟩:=sW hr jj hro
 match Tb,r2 with
 | [u],r2=>
   simp only[ag,and_true] at r2
   by_cases Vn:r=[]
   · refine⟨u,r1,φ7,σ7.T,σ7.O,.agg [.int .i64 d,.lit 5 []],[],qO,hr.bg,?_,.one (by rw[Vn];rfl),rfl,by rw[←hσ0] at*;exact kr ns⟩
     unfold oB at r2
     rw[if_pos Vn] at r2
     simp only[aj] at r2 ⊢
     obtain⟨c1,vs,rfl,c2⟩:=r2
     refine⟨rfl,vs,rfl,?_⟩
     rcases vs with⟨vs⟩
     rcases vs with _| ⟨v0,_| ⟨v1,_| ⟨v2,vs⟩⟩⟩ <;>simp only[ag,aj,and_true,and_false] at c2
     obtain⟨c2,ad,c3⟩:=c2
     simp only[ag,aj,and_true]
     exact⟨c2,rfl,rfl,ad,0,[],c3,aiZ _,by simp[ag],.inl trivial⟩
   · refine⟨u,r1,φ7,σ7.T,σ7.O,oB d gs r,[304],qO,hr.bg,r2,.one ?_,rfl,kr ns⟩
     have hv:Gy d r= .agg [.int .i64 d,.own 5 r]:=by
      cases r with
      | nil=>exact absurd rfl Vn
      | cons a l=>rfl
     have hh:oB d gs r= .agg [vi d,.sl 304 gs 0 r.length]:=by unfold oB;rw[if_neg Vn]
     have x3:=ahK.trans (adx Vn)
     have hw:aG r 0 r.length=r:=zM rfl
     rw[hh]
     show dQ 2 ⟨σ7.T,σ7.O⟩ _=some (Gy d r,[304])
     rw[hv]
     simp[dQ,V.aw,V.al,cm,cG,x3,hw,(qL kY).1]
end Go.AM
