/- Texts of the proof. -/
import Derived.Test.YtdifmldbllaeiaaGreatGaa
import Derived.Test.YtdifmldbllaeiaaGreatMk
set_option maxRecDepth 20000
set_option maxHeartbeats 4000000
set_option linter.unusedSimpArgs false
set_option linter.unusedVariables false
namespace Go.AM
def mk0:aS:=match He with
 | .seq a _=>a
 | _=> .skip
def mk1:aS:=match He with
 | .seq _ (.seq a _)=>a
 | _=> .skip
def mk5:aS:=match He with
 | .seq _ (.seq _ (.seq _ (.seq a _)))=>a
 | _=> .skip
theorem qM {α:Type} {c:aS} {S:SS} {σ:St} (Sh:α→SS) (P:α→Prop) (h:km xV c S (X5 (fun _ _=>False) Sh P)) (ho:S.On σ): ∃N σ' x,exec xV N c σ=some (.normal,σ')∧P x∧(Sh x).On σ':=by
 obtain⟨N,e,σ',h1,S',h3,h4⟩:=cw h ho
 cases e with
 | normal=>
   obtain⟨x,h5,h6⟩:=h4
   exact⟨N,σ',x,h1,h5,h6.on h3⟩
 | exit=>exact h4.elim
 | ret=>exact h4.elim
theorem lH {σ:St}:SS.On ⟨[],[]⟩ σ:=⟨fun t v h=>by simp[lk] at h,fun r o h=>by simp[lk] at h⟩
theorem vz {σ:St} {T:List (Nat×V)} {O:List (Nat×Obj)} {t:Nat} {v:V} (h:σ.T t=v) (ho:SS.On ⟨T,O⟩ σ):SS.On ⟨(t,v)::T,O⟩ σ:=by
 refine⟨fun t' v' h'=> ?_,ho.2⟩
 rw[show (⟨(t,v)::T,O⟩:SS).T=(t,v)::T from rfl,eP] at h'
 split at h'
 ·rename_i e;injection h' with h';rw[←h',←e];exact h
 ·exact ho.1 t' v' h'
theorem sB {σ:St} {O:List (Nat×Obj)} {r:Nat} {o:Obj} (h:σ.O r=o) (ho:SS.On ⟨[],O⟩ σ):SS.On ⟨[],(r,o)::O⟩ σ:=by
 refine⟨fun t v h=>by simp[lk] at h,fun r' o' h'=> ?_⟩
 rw[show (⟨[],(r,o)::O⟩:SS).O=(r,o)::O from rfl,eP] at h'
 split at h'
 ·rename_i e;injection h' with h';rw[←h',←e];exact h
 ·exact ho.2 r' o' h'
theorem rF {S:SS} {σ:St} (h:S.On σ) {t:Nat} {v:V} (hl:lk S.T t=some v):σ.T t=v:=h.1 t v hl
theorem my {S:SS} {σ:St} (h:S.On σ) {r:Nat} {o:Obj} (hl:lk S.O r=some o):σ.O r=o:=h.2 r o hl
theorem aaG {σ:St} {z0 z1 z2 z3:Nat} {l0 l1 l2 l3:List V} {d:Int} (h0:σ.T 0= .agg [.lit z0 l0,.lit z1 l1,.lit z2 l2,.lit z3 l3]) (h1:σ.T 1=vi d): ∃N σ' x,exec xV N mk0 σ=some (.normal,σ')∧True∧
  SS.On ((fun p:Nat×Nat=> ⟨[(1,vi d),(2,.ptr 48 p.1 0 0),(4,.ptr 80 p.2 0 0)],[(48,⟨p.1,4,false,false,some [.agg [.lit z0 l0,.lit z1 l1,.lit z2 l2,.lit z3 l3]]⟩),(80,⟨p.2,2,false,false,some [.agg [.int .i64 0,.lit 5 []]]⟩)]⟩) x) σ':=by
 refine qM (S:=⟨[(0,.agg [.lit z0 l0,.lit z1 l1,.lit z2 l2,.lit z3 l3]),(1,vi d)],[]⟩) _ _ ?_ ?_
 ·(conv=>whnf);repeat' ((first| intro g| refine st ?_| refine br ?_ ?_<;>intro hc| exact rfl) <;>conv=>whnf)
  rename_i xj
  exact xe.mk (xj,g) trivial su
 ·exact vz h0 (vz h1 lH)
theorem aaH {σ:St} {g2 g4:Nat} {d:Int} {o48 MN:Obj} (h1:σ.T 1=vi d) (h2:σ.T 2= .ptr 48 g2 0 0) (h4:σ.T 4= .ptr 80 g4 0 0) (h48:σ.O 48=o48) (Un:σ.O 80=MN): ∃N σ' x,exec xV N mk1 σ=some (.normal,σ')∧True∧
  SS.On ((fun g:Nat=> ⟨[(1,vi d),(2,.ptr 48 g2 0 0),(4,.ptr 80 g4 0 0),(5,.ptr 96 g 0 0)],[(48,o48),(80,MN),(96,⟨g,2,false,false,some [.agg [vi d,.nils]]⟩)]⟩) x) σ':=by
 refine qM (S:=⟨[(1,vi d),(2,.ptr 48 g2 0 0),(4,.ptr 80 g4 0 0)],[(48,o48),(80,MN)]⟩) _ _ ?_ ⟨(vz h1 (vz h2 (vz h4 lH))).1,(sB h48 (sB Un lH)).2⟩
 (conv=>whnf);repeat' ((first| intro g| refine st ?_| refine br ?_ ?_<;>intro hc| exact rfl) <;>conv=>whnf)
 exact xe.mk g trivial su
def nB (d:Int) (g:Nat) (evs:List V):V:= .agg [vi d,if evs=[] then .nils else .sl 304 g 0 evs.length]
theorem Wc {σ:St} {c0 a c2 c3 c4:Int} {v5:V} {MN o96 Ii:Obj} (h12:σ.T 12= .agg [.int .i64 c0,.int .i64 a,.int .i64 c2,.int .i64 c3,.int .i64 c4]) (h5:σ.T 5=v5) (Un:σ.O 80=MN) (XH:σ.O 96=o96) (PN:σ.O 304=Ii): ∃N σ' x,exec xV N xB σ=some (.normal,σ')∧True∧
  SS.On ((fun g:Nat=> ⟨[(5,v5),(6,.ptr 112 g 0 0)],[(80,MN),(96,o96),(304,Ii),(112,⟨g,5,false,false,some [.agg [.int .i64 c0,.int .i64 a,.int .i64 c2,.int .i64 c3,.int .i64 c4]]⟩)]⟩) x) σ':=by
 refine qM (S:=⟨[(12,.agg [.int .i64 c0,.int .i64 a,.int .i64 c2,.int .i64 c3,.int .i64 c4]),(5,v5)],[(80,MN),(96,o96),(304,Ii)]⟩) _ _ ?_ ⟨(vz h12 (vz h5 lH)).1,(sB Un (sB XH (sB PN lH))).2⟩
 (conv=>whnf);repeat' ((first| intro g| refine st ?_| refine br ?_ ?_<;>intro hc| exact rfl) <;>conv=>whnf)
 exact xe.mk g trivial su
theorem S9 {σ:St} {c0 a c2 c3 c4 d:Int} {g5 g6 gs:Nat} {evs:List V} {MN:Obj} (hp:V.ak evs=true) (hb:evs.all (aU · 5)=true) (hl:evs.length< 1000)
  (h5:σ.T 5= .ptr 96 g5 0 0) (h6:σ.T 6= .ptr 112 g6 0 0) (aaI:σ.O 112=⟨g6,5,false,false,some [.agg [.int .i64 c0,.int .i64 a,.int .i64 c2,.int .i64 c3,.int .i64 c4]]⟩)
  (Un:σ.O 80=MN) (XH:σ.O 96=⟨g5,2,false,false,some [nB d gs evs]⟩) (PN:evs≠[]→σ.O 304=⟨gs,5,true,false,some evs⟩): ∃N σ' x,exec xV N xC σ=some (.normal,σ')∧True∧
  SS.On ((fun g:Nat=> ⟨[],[(80,MN),(96,⟨g5,2,false,false,some [nB d g (evs++[.agg [.int .i64 c0,.int .i64 a,.int .i64 c2,.int .i64 c3,.int .i64 c4]])]⟩),(304,⟨g,5,true,false,some (evs++[.agg [.int .i64 c0,.int .i64 a,.int .i64 c2,.int .i64 c3,.int .i64 c4]])⟩)]⟩) x) σ':=by
 by_cases h:evs=[]
 ·subst h
  have hv: ∀g,nB d g ([]++[.agg [.int .i64 c0,.int .i64 a,.int .i64 c2,.int .i64 c3,.int .i64 c4]])= .agg [vi d,.sl 304 g 0 1]:=fun g=>by unfold nB;rw[if_neg afU];rfl
  refine qM (S:=⟨[(5,.ptr 96 g5 0 0),(6,.ptr 112 g6 0 0)],[(112,⟨g6,5,false,false,some [.agg [.int .i64 c0,.int .i64 a,.int .i64 c2,.int .i64 c3,.int .i64 c4]]⟩),(80,MN),(96,⟨g5,2,false,false,some [.agg [vi d,.nils]]⟩)]⟩) _ _ ?_ ?_
  ·(conv=>whnf);repeat' ((first| intro g| refine st ?_| refine br ?_ ?_<;>intro hc| exact rfl) <;>conv=>whnf)
   exact xe.mk g trivial (by simp only[hv];exact su)
  ·exact⟨(vz h5 (vz h6 lH)).1,(sB aaI (sB Un (sB XH lH))).2⟩
 ·refine qM (S:=⟨[(5,.ptr 96 g5 0 0),(6,.ptr 112 g6 0 0)],[(112,⟨g6,5,false,false,some [.agg [.int .i64 c0,.int .i64 a,.int .i64 c2,.int .i64 c3,.int .i64 c4]]⟩),(80,MN),(96,⟨g5,2,false,false,some [.agg [vi d,.sl 304 gs 0 evs.length]]⟩),(304,⟨gs,5,true,false,some evs⟩)]⟩) _ _ ?_ ?_
  ·have hv: ∀g,nB d g (evs++[.agg [.int .i64 c0,.int .i64 a,.int .i64 c2,.int .i64 c3,.int .i64 c4]])= .agg [vi d,.sl 304 g 0 (evs.length+1)]:=fun g=>by unfold nB;rw[if_neg afU];simp
   (conv=>whnf);repeat' ((first| intro g| refine st ?_| refine br ?_ ?_<;>intro hc| exact rfl) <;>conv=>whnf)
   exact xe.mk g trivial (by simp only[hv];exact su)
  ·have aeJ:σ.O 96=⟨g5,2,false,false,some [.agg [vi d,.sl 304 gs 0 evs.length]]⟩:=by rw[XH];unfold nB;rw[if_neg h]
   exact⟨(vz h5 (vz h6 lH)).1,(sB aaI (sB Un (sB aeJ (sB (PN h) lH)))).2⟩
theorem aaJ {σ:St} {g4 g5 g:Nat} {d:Int} {evs:List V} {Ii:Obj} (h4:σ.T 4= .ptr 80 g4 0 0) (h5:σ.T 5= .ptr 96 g5 0 0) (Un:σ.O 80=⟨g4,2,false,false,some [.agg [.int .i64 0,.lit 5 []]]⟩) (XH:σ.O 96=⟨g5,2,false,false,some [nB d g evs]⟩) (PN:σ.O 304=Ii): ∃N σ' z,exec xV N mk5 σ=some (.normal,σ')∧True∧
  SS.On ((fun _:Unit=> ⟨[(4,.ptr 80 g4 0 0)],[(80,⟨g4,2,false,false,some [nB d g evs]⟩),(304,Ii)]⟩) z) σ':=by
 refine qM (S:=⟨[(4,.ptr 80 g4 0 0),(5,.ptr 96 g5 0 0)],[(80,⟨g4,2,false,false,some [.agg [.int .i64 0,.lit 5 []]]⟩),(96,⟨g5,2,false,false,some [nB d g evs]⟩),(304,Ii)]⟩) _ _ ?_ ?_
 ·unfold nB
  split
  ·(conv=>whnf);repeat' ((first| intro g| refine st ?_| refine br ?_ ?_<;>intro hc| exact rfl) <;>conv=>whnf)
   exact xe.mk () trivial su
  ·(conv=>whnf);repeat' ((first| intro g| refine st ?_| refine br ?_ ?_<;>intro hc| exact rfl) <;>conv=>whnf)
   exact xe.mk () trivial su
 ·exact⟨(vz h4 (vz h5 lH)).1,(sB Un (sB XH (sB PN lH))).2⟩
end Go.AM
namespace Go.AM
open Go Go.RowKit Go.Proofs Go.Proofs.YtdifmldbllaeiaaGreat
noncomputable def FW:aS→St→Option (aP×St):=fun c σ=>by
 classical exact if h: ∃r N,exec xV N c σ=some r then some h.choose else none
theorem JU {c:aS} {σ:St} {r:aP×St} {N:Nat} (h:exec xV N c σ=some r):FW c σ=some r:=by
 have hx: ∃r N,exec xV N c σ=some r:=⟨r,N,h⟩
 unfold FW
 rw[dif_pos hx]
 obtain⟨N',h'⟩:=hx.choose_spec
 have k1:=cu (agw N N') _ _ _ h
 have k2:=cu (ago N N') _ _ _ h'
 rw[k1] at k2
 injection k2 with k2
 rw[←k2]
theorem Ta {c:aS} {σ:St} {r:aP×St} (h:FW c σ=some r): ∃N,exec xV N c σ=some r:=by
 unfold FW at h
 split at h
 ·rename_i hx
  injection h with h
  subst h
  exact hx.choose_spec
 ·simp at h
def JV:Hints:={lits:=[(4,[0,5])],n:=21}
structure BX (X:TrEnv) (fn:Func):Prop where
 body: ∃i0 i1 i2 i5 ib Dk Ij A B gV o1 o2 o3,fn.body=some (.seq (.region i0 Dk false) (.seq (.region i1 Ij false) (.seq (.seq (.region i2 #[o1,o2,o3] false) (.block ib (.rangeFunc (.tmp 11) #[12,13] A B))) (.seq (.region i5 gV false) .ret))))∧
  ct X JV (.region i0 Dk false)=some mk0∧ct X JV (.region i1 Ij false)=some mk1∧ct X JV A=some xB∧ct X JV B=some xC∧ct X JV (.region i5 gV false)=some mk5∧
  mT X JV #[o1,o2,o3] o1=some ⟨some 9,.load true 4 (.tmp 2),none,[]⟩∧mT X JV #[o1,o2,o3] o2=some ⟨some 10,.move (.tmp 1),none,[]⟩∧o3.dst=some 11∧o3.guard=none∧
  (∀c,o3.op≠ .defer c)∧ ∀ (a:Go.Act) (w:World),(execOp a.eval o3).run X.P w= .ok (.enter 57 #[a.eval (.tmp 9),a.eval (.tmp 10)]) w
 res:jA X fn.results.toList=some [.cell 4 true 2]
 tmps:fn.ntmps=21
theorem JW {Y:Ctx}:JX Y xV:=fun g F caps xs h=>by simp[xV] at h
def XI (g4 g5:Nat) (d:Int) (r:List V) (k:Nat) (O:Nat→Obj):Prop:=
 ∃gs,O 80=⟨g4,2,false,false,some [.agg [.int .i64 0,.lit 5 []]]⟩∧O 96=⟨g5,2,false,false,some [nB d gs (r.take k)]⟩∧(r.take k≠[]→O 304=⟨gs,5,true,false,some (r.take k)⟩)∧(r.take k=[]→(O 304).es=none)∧ ∀x,x≠80→x≠96→x≠304→(O x).es=none
def nz (O:Nat→Obj):Nat→Obj:=fun x=>if x=80∨x=96∨x=304 then O x else {O x with es:=none}
def nC (O:Nat→Obj):Nat→Obj:=fun x=>if x=80∨x=96 then O x else {O x with es:=none}
theorem Tb (O:Nat→Obj):gU O (nz O):=fun r=>by
 unfold nz;split
 ·exact .inl rfl
 ·exact .inr rfl
theorem JY (O:Nat→Obj):gU O (nC O):=fun r=>by
 unfold nC;split
 ·exact .inl rfl
 ·exact .inr rfl
def PO (e:V):Prop:= ∃c0 a c2 c3 c4,e=FQ c0 a c2 c3 c4
theorem BY {C:Nat→List V→Option eL} {d:Int}: ∀ {n:Nat} {m:V} {b:Int} {evs r:List V},gN C d n m b evs=some r→(∀e ∈ evs,PO e)→(∀e ∈ r,PO e)∧r.length≤evs.length+n
 | 0,_,_,evs,r,h,he=>by
   simp only[gN,afY] at h
   subst h;exact⟨he,ae0⟩
 | n+1,m,b,evs,r,h,he=>by
   obtain⟨c0,a,c2,c3,c4,ok,h1,h2⟩:=zo h
   rcases h2 with⟨_,rfl⟩ | ⟨_,m',err,_,_,h3⟩
   ·exact⟨he,ae0⟩
   ·rcases h3 with⟨_,h3⟩ | ⟨_,rfl⟩
    ·have:=BY h3 (by
      intro e hm
      rcases agd.1 hm with hm| hm
      ·exact he e hm
      ·simp only[agW] at hm;exact⟨_,_,_,_,_,hm⟩)
     refine⟨this.1,?_⟩
     have:=this.2
     simp at this;omega
    ·exact⟨he,ae0⟩
theorem pO: ∀ {l:List V},(∀e ∈ l,PO e)→V.ak l=true∧l.all (aU · 5)=true∧V.mu l=true
 | [],_=> ⟨rfl,rfl,rfl⟩
 | e::l,h=>by
   obtain⟨c0,a,c2,c3,c4,rfl⟩:=h e afU
   obtain⟨h1,h2,h3⟩:=pO (l:=l) fun e he=>h e (by simp[he])
   refine⟨?_,?_,?_⟩
   ·simp only[V.ak,h1,agB];rfl
   ·simp only[agj,h2,agB];rfl
   ·simp only[V.mu,h3,agB];rfl
theorem Tc {g4 g5:Nat} {d:Int} {r:List V} (hr: ∀e ∈ r,PO e) (k:Nat) (O:Nat→Obj) (h:XI g4 g5 d r k O):JQ O:=by
 obtain⟨gs,h1,h2,h3,h4,h5⟩:=h
 intro x es bo
 by_cases e1:x=80
 ·subst e1;rw[h1] at bo ⊢;simp only[afY] at bo;subst bo;exact⟨by show 0 < 2;decide,rfl⟩
 by_cases e2:x=96
 ·subst e2;rw[h2] at bo ⊢;simp only[afY] at bo;subst bo
  refine⟨by show 0 < 2;decide,?_⟩
  unfold nB;split<;>rfl
 by_cases e3:x=304
 ·subst e3
  by_cases he:r.take k=[]
  ·rw[h4 he] at bo;simp at bo
  ·rw[h3 he] at bo ⊢;simp only[afY] at bo;subst bo
   exact⟨by show 0 < 5;decide,(pO fun e hm=>hr e (agp hm)).2.2⟩
 rw[h5 x e1 e2 e3] at bo;simp at bo
theorem aaK {g4 g5:Nat} {d:Int} {r:List V} (k:Nat) (O:Nat→Obj) (h:XI g4 g5 d r k O): ∀x,(O x).es.isSome=true→(O x).fz=false:=by
 obtain⟨gs,h1,h2,h3,h4,h5⟩:=h
 intro x hx
 by_cases e1:x=80
 ·subst e1;rw[h1]
 by_cases e2:x=96
 ·subst e2;rw[h2]
 by_cases e3:x=304
 ·subst e3
  by_cases he:r.take k=[]
  ·rw[h4 he] at hx;simp at hx
  ·rw[h3 he]
 rw[h5 x e1 e2 e3] at hx;simp at hx
theorem PQ {g4 g5:Nat} {d:Int} {r:List V} (hr: ∀e ∈ r,PO e) (hl:r.length< 1000) {T:Nat→V} (hT5:T 5= .ptr 96 g5 0 0) (k:Nat) (x:List V) (O:Nat→Obj) (hx: (r.map fun e=> [e,V.any])[k]? =some x) (h:XI g4 g5 d r k O):
  ∃σ1 σ2 O',FW xB ⟨jr T [12,13] x,O⟩=some (.normal,σ1)∧FW xC σ1=some (.normal,σ2)∧gU σ2.O O'∧XI g4 g5 d r (k+1) O':=by
 obtain⟨gs,h1,h2,h3,h4,h5⟩:=h
 rw[age,afZ] at hx
 obtain⟨e,he,rfl⟩:=hx
 obtain⟨c0,a,c2,c3,c4,rfl⟩:=hr e (List.mem_of_getElem? he)
 have hk:r.take (k+1)=r.take k++[FQ c0 a c2 c3 c4]:=by
  rw[agD,he];rfl
 obtain⟨N1,σ1,g6,k1,_,k2⟩:=Wc (σ:=⟨jr T [12,13] [FQ c0 a c2 c3 c4,.any],O⟩) (c0:=c0) (a:=a) (c2:=c2) (c3:=c3) (c4:=c4) (v5:= .ptr 96 g5 0 0) rfl (by simpa [jr,cU] using hT5) h1 h2 rfl
 obtain⟨N2,σ2,g,q1,_,q2⟩:=S9 (σ:=σ1) (c0:=c0) (a:=a) (c2:=c2) (c3:=c3) (c4:=c4) (d:=d) (gs:=gs) (evs:=r.take k) (g5:=g5) (g6:=g6) (pO fun e hm=>hr e (agp hm)).1 (pO fun e hm=>hr e (agp hm)).2.1 (by simp;omega)
  (rF k2 rfl) (rF k2 rfl) (my k2 rfl) (my k2 (r:=80) rfl) (my k2 rfl) (fun cF=>by rw[my k2 (r:=304) rfl];exact h3 cF)
 have cF:r.take (k+1)≠[]:=by rw[hk];simp
 refine⟨σ1,σ2,nz σ2.O,JU k1,JU q1,Tb _,g,?_,?_,?_,fun h=>absurd h cF,?_⟩
 ·show σ2.O 80=_
  exact my q2 rfl
 ·show σ2.O 96=_
  rw[hk]
  exact my q2 rfl
 ·intro _
  show σ2.O 304=_
  rw[hk]
  exact my q2 rfl
 ·intro x e1 e2 e3
  unfold nz
  rw[if_neg (by simp[e1,e2,e3])]
theorem zr {w:World} {φ:Nat→Row} {O:Nat→Obj}:Le ⟨w,φ,O⟩ ⟨w,φ,nC O⟩:=(JY O).le w φ
theorem We {X:Ctx} {μ:Mu} (ho:ba X μ): ∀b,Mu.own μ b→b<μ.w.heap.size:=by
 rintro b ⟨r,h1,h2,h3,h4⟩
 have:=sx ho h1 h3
 omega
theorem Td {X:Ctx} {μ:Mu} {d:Int} {v:Value} (h:aj X μ (.int .i64 d) v):v= .int .i64 d:=by simpa [aj] using h
theorem LN {X:TrEnv} (hP:X.P=Tryz.prog) (Fy:X.P.follows .mixedOrders=true) (rf: ∀t1 t2 k,X.pP t1=some k→X.pP t2=some k→t1=t2) (hsh:BX X Tryz.f20) (h74:X.fo 14=some 644) (h75:X.fo 15=some 645)
   {C:bn} (hC: ∀f F vs res,X.fo F=some f→C f vs=some res→bG X F vs res) {args:List V} {res:eL} (h:yf C args=some res):bG X 20 args res:=by
 obtain⟨⟨i0,i1,i2,i5,ib,Dk,Ij,cA,cB,gV,o1,o2,o3,fS,t0,t1,tA,tB,t5,to1,to2,hd3,Te,aeK,hx3⟩,iO,FJ⟩:=hsh
 unfold yf at h
 split at h
 rotate_left
 ·simp at h
 rename_i m d
 split at h
 rotate_left
 ·simp at h
 rename_i hm
 rw[afZ] at h
 obtain⟨r,ah,rfl⟩:=h
 obtain⟨tL,Wf⟩:=BY ah afU
 have aeL:r.length< 1000:=by simp at Wf;omega
 have mz:V.ak [m,.int .i64 d]=true:=by simp[V.ak,V.au,iB hm]
 intro B K w φ0 vals BN hv ho
 have hO: (enter [m,.int .i64 d]).O=jk:=wK mz
 have hT0: (enter [m,.int .i64 d]).T 0=m:=by rw[dT mz];rfl
 have hT1: (enter [m,.int .i64 d]).T 1= .int .i64 d:=by rw[dT mz];rfl
 have mc:X.P.funcs[20]? =some Tryz.f20:=by rw[hP];exact Tryz.func20
 rw[ou mc afW fS]
 simp only[sC]
 refine(callsIn_wide (n:=0)).1 (callsIn_of_wp_marks (F:=Fr none) mc fS trivial ?_ rfl)
 have bF:vals.toArray.size≤Tryz.f20.ntmps:=by rw[FJ];simp[BN]
 have j4:jy ⟨X,B,K⟩ ⟨w,φ0,(enter [m,.int .i64 d]).O⟩ ⟨Tryz.f20.ntmps,w.heap.size,none⟩ (enter [m,.int .i64 d]) {tmps:=vals.toArray++Array.replicate (Tryz.f20.ntmps - vals.toArray.size) undef,defers:=[]} w:=by
   refine⟨Marks.nil (af6 _) afU,by simp at bF ⊢;omega,φ0,⟨fun t=> ?_,ho⟩,Le.refl _⟩
   by_cases ht:t<vals.length
   · have e1: (vals.toArray++Array.replicate (Tryz.f20.ntmps - vals.toArray.size) undef).getD t undef=vals[t]:=by
      simp[ag7,ht]
     rw[e1]
     exact hv t _ (af3 ht)
   · have e1: (vals.toArray++Array.replicate (Tryz.f20.ntmps - vals.toArray.size) undef).getD t undef=undef:=by
      simp[ag7,ht,ahu]
      split<;>rfl
     have e2: (enter [m,.int .i64 d]).T t=dE:=by
      have: [m,V.int .i64 d][t]? =none:=agZ ae0
      simp[enter,this]
     rw[e1,e2]
     exact qN
 generalize hσ0:enter [m,.int .i64 d]=σ0 at j4 hT0 hT1 hO hv ho
 generalize ({tmps:=vals.toArray++Array.replicate (Tryz.f20.ntmps - vals.toArray.size) undef,defers:=[]}:Go.Act)=a0 at j4 ⊢
 have H:=JZ (Y:=⟨X,B,K⟩) rf
 have Tf: (⟨X,B,K⟩:Ctx).P.follows .mixedOrders=true:=Fy
 obtain⟨z0,l0,z1,l1,z2,l2,z3,l3,CO⟩:=sA hm
 obtain⟨N0,σ1,⟨xj,JF⟩,e0,_,q0⟩:=aaG (σ:=σ0) (hT0.trans CO) hT1
 refine wpIn_seq (wpIn_mono (lI (X:=⟨X,B,K⟩) Tf JW (h:=JV) N0 (fun k _=>Dl rf k) (n:=⟨Tryz.f20.ntmps,w.heap.size,none⟩) FJ.symm _ _ _ _ _ _ _ t0 e0 j4) ?_)
 rintro ex a1 w1 ⟨rfl,iY⟩
 obtain⟨N1,σ2,xN,e1,_,q1⟩:=aaH (σ:=σ1) (rF q0 rfl) (rF q0 rfl) (rF q0 rfl) (my q0 (r:=48) rfl) (my q0 (r:=80) rfl)
 refine wpIn_seq (wpIn_mono (lI (X:=⟨X,B,K⟩) Tf JW (h:=JV) N1 (fun k _=>Dl rf k) (n:=⟨Tryz.f20.ntmps,w.heap.size,none⟩) FJ.symm _ _ _ _ _ _ _ t1 e1 iY) ?_)
 rintro ex a2 w2 ⟨rfl,nZ⟩
 have k2:σ2.T 2= .ptr 48 xj 0 0:=rF q1 rfl
 have k1:σ2.T 1=vi d:=rF q1 rfl
 have k4:σ2.T 4= .ptr 80 JF 0 0:=rF q1 rfl
 have k5:σ2.T 5= .ptr 96 xN 0 0:=rF q1 rfl
 have k48:σ2.O 48=⟨xj,4,false,false,some [m]⟩:=by rw[CO];exact my q1 rfl
 have k80:σ2.O 80=⟨JF,2,false,false,some [.agg [.int .i64 0,.lit 5 []]]⟩:=my q1 rfl
 have k96:σ2.O 96=⟨xN,2,false,false,some [.agg [vi d,.nils]]⟩:=my q1 rfl
 clear q0 q1 e0 e1
 refine wpIn_seq (wpIn_seq (wpIn_region ?_))
 have aaL:List.range (#[o1,o2,o3]:Array Oper).size=[0,1,2]:=rfl
 rw[aaL,wpOpsIn_cons]
 have aeM:dK xV Wg ⟨some 9,.load true 4 (.tmp 2),none,[]⟩ σ2=some (σ2.put (some 9) m):=by
   rw[CO] at k48 ⊢
   simp[dK,cJ,aH,ev,eC,Act.run,bu,k2,k48,part]
 refine lJ H (n:=⟨Tryz.f20.ntmps,w.heap.size,none⟩) (h:=JV) (o:=o1) rfl to1 FJ.symm nZ aeM fun a3 w3 BL=> ?_
 rw[wpOpsIn_cons]
 have aeN:dK xV Wg ⟨some 10,.move (.tmp 1),none,[]⟩ (σ2.put (some 9) m)=some ((σ2.put (some 9) m).put (some 10) (vi d)):=by
   rw[←k1];rfl
 refine lJ H (n:=⟨Tryz.f20.ntmps,w.heap.size,none⟩) (h:=JV) (o:=o2) rfl to2 FJ.symm BL aeN fun a4 w4 hs4=> ?_
 rw[wpOpsIn_cons]
 have FX: (#[o1,o2,o3]:Array Oper)[2]? =some o3:=rfl
 simp only[wpOpIn,FX]
 rw[if_pos (by simp[Region.wanted,Te])]
 refine qL aeK ?_
 unfold Oper.wp
 rw[hx3,Oper.upon_enter]
 obtain⟨aaM,Wh,φ4,VV,aeO⟩:=hs4
 obtain⟨s0,s1,s2,s3,CW⟩:=BU hm (VV.tmps 9)
 have hdv:=Td (VV.tmps 10)
 have hmr:aj ⟨X,B,K⟩ ⟨w4,φ4,σ2.O⟩ m (mapVal s0 s1 s2 s3):=by rw[←CW];exact VV.tmps 9
 have ea: (#[a4.eval (.tmp 9),a4.eval (.tmp 10)]:Array Value)= #[.agg #[.slice s0.a s0.n s0.c,.slice s1.a s1.n s1.c,.slice s2.a s2.n s2.c,.slice s3.a s3.n s3.c],.int .i64 d]:=by
   have e1:a4.eval (.tmp 9)=mapVal s0 s1 s2 s3:=by simpa [Go.Act.eval] using CW
   have e2:a4.eval (.tmp 10)= .int .i64 d:=by simpa [Go.Act.eval] using hdv
   rw[e1,e2];rfl
 rw[ea,hP]
 refine Calls.mono (Ic w4 _ _ _ _ d) ?_
 rintro e w5 ⟨rfl,hw5⟩
 rw[←hP]
 simp only[wpOpsIn]
 have Rg: ∀ (W:World) (o:Go.Obj),(W.alloc o).heap.size=W.heap.size+1:=fun W o=>World.size_alloc _ _
 have aaN:w4.grownBy w5 none:=by
   rw[hw5]
   have g1:=World.grownBy_alloc w4 (.cells #[.slice s0.a s0.n s0.c,.slice s1.a s1.n s1.c,.slice s2.a s2.n s2.c,.slice s3.a s3.n s3.c] 30) none
   have g2:=World.grownBy_alloc (w4.alloc (.cells #[.slice s0.a s0.n s0.c,.slice s1.a s1.n s1.c,.slice s2.a s2.n s2.c,.slice s3.a s3.n s3.c] 30)) (.cells #[.int .i64 d] 3) none
   exact⟨g2.os.trans g1.os,g2.tape.trans g1.tape,g2.output.trans g1.output,agm g1.size g2.size,fun k hk h=> (g2.block k (af9 hk g1.size) h).trans (g1.block k hk h)⟩
 have FB:w5.heap[w4.heap.size]? =some (.cells #[.slice s0.a s0.n s0.c,.slice s1.a s1.n s1.c,.slice s2.a s2.n s2.c,.slice s3.a s3.n s3.c] 30):=by
   rw[hw5]
   exact((World.grownBy_alloc (w4.alloc _) _ none).block _ (by rw[Rg];omega) afU).trans (World.alloc_heap_new _ _)
 have MM:w5.heap[w4.heap.size+1]? =some (.cells #[.int .i64 d] 3):=by
   rw[hw5,←Rg w4]
   exact World.alloc_heap_new _ _
 have hs5:w5.heap.size=w4.heap.size+2:=by rw[hw5,Rg,Rg]
 have Wi:ba ⟨X,B,K⟩ ⟨w4,φ4,nC σ2.O⟩:=(JY _).a8 VV.a8
 obtain⟨Uo,aaO⟩:=J0 (μ:=⟨w4,φ4,nC σ2.O⟩) aaN Wi
 have hU:=We Wi
 obtain⟨T',U1⟩: ∃T':Nat→V,T'=fun t=>if t=4 then .ptr 80 JF 0 0 else if t=5 then .ptr 96 xN 0 0 else .any:=⟨_,rfl⟩
 have Up:=ox (X:=⟨X,B,K⟩) (dst:=o3.dst) (v:= .any) (val:= .func (.func 101) #[] #[.pointer (some ⟨w4.heap.size,0,none⟩),.pointer (some ⟨w4.heap.size+1,0,none⟩)]) VV (zr.trans Uo) aaO (by simp[aj]) (by rw[hd3];simp;rw[Wh];show 11 <Tryz.f20.ntmps;rw[FJ];decide) (nC σ2.O)
 have e11: (a4.put o3.dst (.func (.func 101) #[] #[.pointer (some ⟨w4.heap.size,0,none⟩),.pointer (some ⟨w4.heap.size+1,0,none⟩)])).eval (.tmp 11)= .func (.func 101) #[] #[.pointer (some ⟨w4.heap.size,0,none⟩),.pointer (some ⟨w4.heap.size+1,0,none⟩)]:=by
   rw[hd3]
   have:11 <a4.tmps.size:=by rw[Wh];show 11 <Tryz.f20.ntmps;rw[FJ];decide
   simp[Go.Act.eval,Go.Act.put,this]
 have aaP:Marks ⟨Tryz.f20.ntmps,w.heap.size,none⟩ w4 (a4.put o3.dst (.func (.func 101) #[] #[.pointer (some ⟨w4.heap.size,0,none⟩),.pointer (some ⟨w4.heap.size+1,0,none⟩)])).defers:=by rw[put_defers];exact aaM
 have aeP: (a4.put o3.dst (.func (.func 101) #[] #[.pointer (some ⟨w4.heap.size,0,none⟩),.pointer (some ⟨w4.heap.size+1,0,none⟩)])).tmps.size=Tryz.f20.ntmps:=by rw[lK];exact Wh
 generalize a4.put o3.dst (.func (.func 101) #[] #[.pointer (some ⟨w4.heap.size,0,none⟩),.pointer (some ⟨w4.heap.size+1,0,none⟩)])=a5 at*
 have aaQ:Rel ⟨X,B,K⟩ T' a5 ⟨w5,φ4,nC σ2.O⟩:=by
   refine⟨fun t=> ?_,aaO⟩
   rw[U1]
   have h4:=Up.tmps 4
   have h5:=Up.tmps 5
   rw[hd3] at h4 h5
   by_cases e4:t=4
   · subst e4
     have: (St.put ⟨((σ2.put (some 9) m).put (some 10) (vi d)).T,nC σ2.O⟩ (some 11) .any).T 4= .ptr 80 JF 0 0:=k4
     rw[this] at h4
     exact h4
   · by_cases e5:t=5
     ·subst e5
      have: (St.put ⟨((σ2.put (some 9) m).put (some 10) (vi d)).T,nC σ2.O⟩ (some 11) .any).T 5= .ptr 96 xN 0 0:=k5
      rw[this] at h5
      exact h5
     ·simp only[if_neg e4,if_neg e5]
      simp[aj]
 have hP0:XI JF xN d r 0 (nC σ2.O):=by
   refine⟨0,k80,k96,fun h=>absurd rfl h,fun _=>rfl,fun x e1 e2 e3=> ?_⟩
   unfold nC
   rw[if_neg (by simp[e1,e2])]
 have cok: ∀ {c:Code} {ac:aS},ct X JV c=some ac→ ∀l,zk ⟨X,B,K⟩ ⟨Tryz.f20.ntmps,0,some l⟩ c FW ac:=fun {c ac} ht l σ σ' e μ0 a w hx hs=>by
   obtain⟨N,hN⟩:=Ta hx
   exact lI (X:=⟨X,B,K⟩) Tf JW (h:=JV) N (fun k _=>Dl rf k) (n:=⟨Tryz.f20.ntmps,0,some l⟩) FJ.symm c ac σ σ' e a w ht hN hs
 have pM:=FV (X:=X) hP hC h74 h75 (B:=B) (K:=K) (w0:=w4) (d:=d) (m:=m) (s0:=s0) (s1:=s1) (s2:=s2) (s3:=s3) (r:=r) hm ah (φ:=φ4) (O0:=nC σ2.O) (aj.mono zr hmr) hU (w:=w5) (Bm:=w4.heap.size) (Bd:=w4.heap.size+1) (af6 _) ae0 FB MM (fun b hb=>aaN.block b hb afU)
 refine wpIn_block (wpIn_mono (Dc (X:=⟨X,B,K⟩) (n:=⟨Tryz.f20.ntmps,w.heap.size,none⟩) (g:= .tmp 11) (ps:= #[12,13]) (rec:=FW) (ta:=xB) (tb:=xC) (cok tA) (cok tB) (μ0:=⟨w4,φ4,nC σ2.O⟩) (T:=T') (Pk:=XI JF xN d r) hP0 aaP Wi rfl aeP aaQ Uo
   (by rw[show (⟨Tryz.f20.ntmps,w.heap.size,none⟩:Fp).tm=21 from FJ];simp) e11 (fun args w=>ou (by rw[hP];exact Tryz.func101) afW rfl args w) (by intro x hx;simp at hx;obtain⟨e,_,rfl⟩:=hx;rfl)
   (by intro t;rw[U1];by_cases e4:t=4 <;>by_cases e5:t=5 <;>simp[e4,e5,V.flat]) (Tc tL) (fun k x O hx hp=>PQ tL aeL (by rw[U1];rfl) k x O hx hp)
   (by rintro b (rfl| rfl);exact⟨ae0,fun h=>by have:=hU _ h;exact absurd this (Nat.lt_irrefl _),af6 _⟩;exact⟨ae0,fun h=>by have:=hU _ h;have h9:w4.heap.size+1 <w4.heap.size:=this;omega,Nat.le_succ _⟩) aaK pM) ?_)
 rintro ex a6 w6 ⟨rfl,O6,hp6,hs6⟩
 obtain⟨aaR,aeQ,φ6,hr6,aeR⟩:=hs6
 have aeS:jy ⟨X,B,K⟩ ⟨w,φ0,σ0.O⟩ ⟨Tryz.f20.ntmps,w.heap.size,none⟩ ⟨T',O6⟩ a6 w6:=⟨aaR,aeQ,φ6,hr6,aeO.trans (zr.trans aeR)⟩
 obtain⟨gs,p80,p96,aaS,_,_⟩:=hp6
 rw[show r.take (r.map fun e=> [e,V.any]).length=r by simp] at p96 aaS
 obtain⟨N5,σ7,_,e5,_,q5⟩:=aaJ (σ:=⟨T',O6⟩) (g4:=JF) (g5:=xN) (by rw[U1];rfl) (by rw[U1];rfl) p80 p96 rfl
 refine wpIn_seq (wpIn_mono (lI (X:=⟨X,B,K⟩) Tf JW (h:=JV) N5 (fun k _=>Dl rf k) (n:=⟨Tryz.f20.ntmps,w.heap.size,none⟩) FJ.symm _ _ _ _ _ _ _ t5 e5 aeS) ?_)
 rintro ex a7 w7 ⟨rfl,hs7⟩
 refine wpIn_ret ?_
 obtain⟨aaT,afP,φ7,hr7,aeT⟩:=hs7
 have XA:ek σ7 [.cell 4 true 2]=some [nB d gs r]:=by
   have x1:σ7.T 4= .ptr 80 JF 0 0:=rF q5 rfl
   have x2:σ7.O 80=⟨JF,2,false,false,some [nB d gs r]⟩:=my q5 rfl
   simp[ek,lr,x1,x2,part,nB]
 have aeU:σ7.O 304=O6 304:=my q5 (r:=304) rfl
 show LeavesInM (Fr none) 0 X.P Tryz.f20 a7.tmps _ a7.defers .returning w7
 refine pQ (fun w'=>Rel ⟨X,B,K⟩ σ7.T a7 ⟨w',φ7,σ7.O⟩∧Le ⟨w,φ0,σ0.O⟩ ⟨w',φ7,σ7.O⟩) (fun w1 D h1 h2 ⟨hr,hle⟩=> ⟨⟨fun t=>aj.ck (iA (μ:=⟨w1,φ7,σ7.O⟩) h2 rfl rfl) (hr.tmps t),vA hr.a8 h2⟩,Dm hle h1⟩) (fun w' ⟨hr,pR⟩=> ?_) aaT ⟨hr7,aeT⟩
 obtain⟨PR,r1,r2⟩:=rG hr iO XA
 match PR,r2 with
 | [u],r2=>
   simp only[ag,and_true] at r2
   by_cases T6:r=[]
   · refine⟨u,r1,φ7,σ7.T,σ7.O,.agg [.int .i64 d,.lit 5 []],[],pR,hr.a8,?_,.one (by rw[T6];rfl),rfl,by rw[←hσ0] at*;exact jS mz⟩
     unfold nB at r2
     rw[if_pos T6] at r2
     simp only[aj] at r2 ⊢
     obtain⟨c1,vs,rfl,c2⟩:=r2
     refine⟨rfl,vs,rfl,?_⟩
     rcases vs with⟨vs⟩
     rcases vs with _| ⟨v0,_| ⟨v1,_| ⟨v2,vs⟩⟩⟩ <;>simp only[ag,aj,and_true,and_false] at c2
     obtain⟨c2,ad,c3⟩:=c2
     simp only[ag,aj,and_true]
     exact⟨c2,rfl,rfl,ad,0,[],c3,af6 _,by simp[ag],.inl trivial⟩
   · refine⟨u,r1,φ7,σ7.T,σ7.O,nB d gs r,[304],pR,hr.a8,r2,.one ?_,rfl,jS mz⟩
     have hv:Ed d r= .agg [.int .i64 d,.own 5 r]:=by
      cases r with
      | nil=>exact absurd rfl T6
      | cons a l=>rfl
     have hh:nB d gs r= .agg [vi d,.sl 304 gs 0 r.length]:=by unfold nB;rw[if_neg T6]
     have x3:=aeU.trans (aaS T6)
     have hw:aF r 0 r.length=r:=yd rfl
     rw[hh]
     show dH 2 ⟨σ7.T,σ7.O⟩ _=some (Ed d r,[304])
     rw[hv]
     simp[dH,V.au,V.ak,cg,cz,x3,hw,(pO tL).1]
end Go.AM
