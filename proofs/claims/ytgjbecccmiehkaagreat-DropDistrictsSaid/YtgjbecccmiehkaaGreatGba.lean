/- Texts of the proof. -/
import Derived.Test.YtgjbecccmiehkaaGreatGaa
set_option maxRecDepth 20000
set_option maxHeartbeats 8000000
set_option linter.unusedSimpArgs false
set_option linter.unusedVariables false
namespace Go.AM
theorem zy (x0:Int): ∃r:Int,Ev E 283 [vi x0] ⟨vi r,[]⟩:=by
 refine eR (Ev.eQ rfl rfl rfl ?_)
 exact dr
noncomputable def GI (x0:Int):Int:=(zy x0).choose
theorem Jk (x0:Int):Ev E 283 [vi x0] ⟨vi (GI x0),[]⟩:=(zy x0).choose_spec
theorem zz (x0:Int): ∃r:Int,Ev E 285 [vi x0] ⟨.int .u64 r,[]⟩:=by
 refine eR (Ev.eQ rfl rfl rfl ?_)
 exact dr
noncomputable def zA (x0:Int):Int:=(zz x0).choose
theorem Jl (x0:Int):Ev E 285 [vi x0] ⟨.int .u64 (zA x0),[]⟩:=(zz x0).choose_spec
theorem sr (x0 x1:Int): ∃r:Int×Int,Ev E 284 [.int .u64 x0,.int .u64 x1] ⟨.agg [.int .u64 r.1,.int .u64 r.2],[]⟩:=by
 refine eR (Ev.eQ rfl rfl rfl ?_)
 conv=>whnf
 repeat' (first| intro g| refine st ?_| refine br ?_ ?_<;>intro hc| rfl) <;>conv=>whnf
 all_goals exact⟨⟨_,_⟩,rfl⟩
noncomputable def qj (x0 x1:Int):Int×Int:=(sr x0 x1).choose
theorem BS (x0 x1:Int):Ev E 284 [.int .u64 x0,.int .u64 x1] ⟨.agg [.int .u64 (qj x0 x1).1,.int .u64 (qj x0 x1).2],[]⟩:=(sr x0 x1).choose_spec
theorem sx (x0 x1 x2:Int): ∃r:Bool,Ev E 282 [vi x0,vi x1,vi x2] ⟨.bool r,[]⟩:=by
 refine eR (Ev.eQ rfl rfl rfl ?_)
 exact dr
noncomputable def GJ (x0 x1 x2:Int):Bool:=(sx x0 x1 x2).choose
theorem BT (x0 x1 x2:Int):Ev E 282 [vi x0,vi x1,vi x2] ⟨.bool (GJ x0 x1 x2),[]⟩:=(sx x0 x1 x2).choose_spec
theorem Dv (x0 x1 x2:Int): ∃r:Bool,Ev E 270 [.agg [vi x0,vi x1,vi x2]] ⟨.bool r,[]⟩:=by
 refine eR (Ev.eQ rfl rfl rfl ?_)
 conv=>whnf
 repeat' (first| intro g| apply ca (BT _ _ _) | refine st ?_| refine br ?_ ?_<;>intro hc| rfl) <;>conv=>whnf
 all_goals exact⟨_,rfl⟩
noncomputable def S8 (x0 x1 x2:Int):Bool:=(Dv x0 x1 x2).choose
theorem LC (x0 x1 x2:Int):Ev E 270 [.agg [vi x0,vi x1,vi x2]] ⟨.bool (S8 x0 x1 x2),[]⟩:=(Dv x0 x1 x2).choose_spec
theorem sy (x0 x1 x2:Int): ∃r:Bool,Ev E 198 [.agg [vi x0,vi x1,vi x2]] ⟨.bool r,[]⟩:=by
 refine eR (Ev.eQ rfl rfl rfl ?_)
 exact dr
noncomputable def zB (x0 x1 x2:Int):Bool:=(sy x0 x1 x2).choose
theorem uw (x0 x1 x2:Int):Ev E 198 [.agg [vi x0,vi x1,vi x2]] ⟨.bool (zB x0 x1 x2),[]⟩:=(sy x0 x1 x2).choose_spec
theorem nB (x y:Int):Ev E 199 [.agg [vi x,vi y]] ⟨.agg [vi x,vi y,vi 1],[]⟩:=by
 refine Ev.aO rfl rfl rfl ?_
 exact dr
theorem wv (x0 x1 x2 x3:Int): ∃r:Int,Ev E 271 [vi x0,vi x1,vi x2,vi x3] ⟨vi r,[]⟩:=by
 refine eR (Ev.eQ rfl rfl rfl ?_)
 conv=>whnf
 repeat' (first| intro g| apply ca (Jk _) | apply ca (Jl _) | apply ca (BS _ _) | refine st ?_| refine br ?_ ?_<;>intro hc| rfl) <;>conv=>whnf
 ·exact⟨_,rfl⟩
 rename_i g11
 generalize hu:qj (zA x0) (zA x1)=u
 generalize hv:qj (zA x2) (zA x3)=v
 obtain⟨u0,u1⟩:=u
 obtain⟨v0,v1⟩:=v
 generalize hs:IntKind.i64.wrap (GI x0*GI x1)=s
 refine a8.by (fun (k:Nat)=> ⟨[(9,vi s),(11,.ptr 192 g11 0 0),(12,.ptr 208 g 0 0),(13,aL k)],[(192,⟨g11,2,false,false,some [.agg [.int .u64 u0,.int .u64 u1]]⟩),(208,⟨g,2,false,false,some [.agg [.int .u64 v0,.int .u64 v1]]⟩)]⟩)
  (fun k=>k≤2) (fun k=>2 - k) 0 su om ?_
 intro k hk
 rcases(by omega:k=0∨k=1∨k=2) with rfl| rfl| rfl
 ·conv=>whnf
  repeat' (first| intro g| refine st ?_| refine br ?_ ?_<;>intro hc| rfl) <;>conv=>whnf
  all_goals first| exact⟨_,rfl⟩ | exact bo.mk 1 om om su
 ·conv=>whnf
  repeat' (first| intro g| refine st ?_| refine br ?_ ?_<;>intro hc| rfl) <;>conv=>whnf
  all_goals first| exact⟨_,rfl⟩ | exact bo.mk 2 om om su
 ·conv=>whnf
  repeat' (first| intro g| refine st ?_| refine br ?_ ?_<;>intro hc| rfl) <;>conv=>whnf
  exact⟨_,rfl⟩
noncomputable def LD (x0 x1 x2 x3:Int):Int:=(wv x0 x1 x2 x3).choose
theorem zC (x0 x1 x2 x3:Int):Ev E 271 [vi x0,vi x1,vi x2,vi x3] ⟨vi (LD x0 x1 x2 x3),[]⟩:=(wv x0 x1 x2 x3).choose_spec
theorem Dw (x0 x1 x2 x3:Int): ∃r:Int,Ev E 238 [.agg [vi x0,vi x1],.agg [vi x2,vi x3]] ⟨vi r,[]⟩:=by
 refine eR (Ev.eQ rfl rfl rfl ?_)
 conv=>whnf
 repeat' (first| intro g| apply ca (zC _ _ _ _) | refine st ?_| refine br ?_ ?_<;>intro hc| rfl) <;>conv=>whnf
 all_goals exact⟨_,rfl⟩
noncomputable def S9 (x0 x1 x2 x3:Int):Int:=(Dw x0 x1 x2 x3).choose
theorem BU (x0 x1 x2 x3:Int):Ev E 238 [.agg [vi x0,vi x1],.agg [vi x2,vi x3]] ⟨vi (S9 x0 x1 x2 x3),[]⟩:=(Dw x0 x1 x2 x3).choose_spec
theorem wx (x0 x1 x2 x3 x4:Int): ∃r:Int,Ev E 236 [vi x0,.agg [vi x1,vi x2],.agg [vi x3,vi x4]] ⟨vi r,[]⟩:=by
 refine eR (Ev.eQ rfl rfl rfl ?_)
 conv=>whnf
 repeat' (first| intro g| apply ca (BU _ _ _ _) | refine st ?_| refine br ?_ ?_<;>intro hc| rfl) <;>conv=>whnf
 all_goals exact⟨_,rfl⟩
noncomputable def LF (x0 x1 x2 x3 x4:Int):Int:=(wx x0 x1 x2 x3 x4).choose
theorem GK (x0 x1 x2 x3 x4:Int):Ev E 236 [vi x0,.agg [vi x1,vi x2],.agg [vi x3,vi x4]] ⟨vi (LF x0 x1 x2 x3 x4),[]⟩:=(wx x0 x1 x2 x3 x4).choose_spec
theorem wy (x0 x1 x2 x3 x4:Int): ∃r:Bool,Ev E 237 [.agg [vi x0,vi x1,vi x2],.agg [vi x3,vi x4]] ⟨.bool r,[]⟩:=by
 refine eR (Ev.eQ rfl rfl rfl ?_)
 conv=>whnf
 repeat' (first| intro g| apply ca (BU _ _ _ _) | refine st ?_| refine br ?_ ?_<;>intro hc| rfl) <;>conv=>whnf
 all_goals exact⟨_,rfl⟩
noncomputable def LG (x0 x1 x2 x3 x4:Int):Bool:=(wy x0 x1 x2 x3 x4).choose
theorem GL (x0 x1 x2 x3 x4:Int):Ev E 237 [.agg [vi x0,vi x1,vi x2],.agg [vi x3,vi x4]] ⟨.bool (LG x0 x1 x2 x3 x4),[]⟩:=(wy x0 x1 x2 x3 x4).choose_spec
theorem ql (x0 x1 x2 x3 x4 x5 x6 x7 x8:Int): ∃r:Int,Ev E 235 [.agg [vi x0,vi x1,vi x2],.agg [vi x3,vi x4,vi x5],.agg [vi x6,vi x7,vi x8]] ⟨vi r,[]⟩:=by
 refine eR (Ev.eQ rfl rfl rfl ?_)
 conv=>whnf
 repeat' (first| intro g| apply ca (LC _ _ _) | apply ca (zC _ _ _ _) | refine st ?_| refine br ?_ ?_<;>intro hc| rfl) <;>conv=>whnf
 all_goals exact⟨_,rfl⟩
noncomputable def Ep (x0 x1 x2 x3 x4 x5 x6 x7 x8:Int):Int:=(ql x0 x1 x2 x3 x4 x5 x6 x7 x8).choose
theorem mJ (x0 x1 x2 x3 x4 x5 x6 x7 x8:Int):Ev E 235 [.agg [vi x0,vi x1,vi x2],.agg [vi x3,vi x4,vi x5],.agg [vi x6,vi x7,vi x8]] ⟨vi (Ep x0 x1 x2 x3 x4 x5 x6 x7 x8),[]⟩:=(ql x0 x1 x2 x3 x4 x5 x6 x7 x8).choose_spec
theorem GM (x0 x1 x2 x3 x4 x5 x6 x7:Int): ∃r:Bool,Ev E 200 [.agg [vi x0,vi x1,vi x2],.agg [vi x3,vi x4,vi x5],.agg [vi x6,vi x7]] ⟨.bool r,[]⟩:=by
 refine eR (Ev.eQ rfl rfl rfl ?_)
 conv=>whnf
 repeat' (first| intro g| apply ca (nB _ _) | apply ca (mJ _ _ _ _ _ _ _ _ _) | apply ca (GK _ _ _ _ _) | refine st ?_| refine br ?_ ?_<;>intro hc| rfl) <;>conv=>whnf
 all_goals exact⟨_,rfl⟩
noncomputable def U5 (x0 x1 x2 x3 x4 x5 x6 x7:Int):Bool:=(GM x0 x1 x2 x3 x4 x5 x6 x7).choose
theorem O3 (x0 x1 x2 x3 x4 x5 x6 x7:Int):Ev E 200 [.agg [vi x0,vi x1,vi x2],.agg [vi x3,vi x4,vi x5],.agg [vi x6,vi x7]] ⟨.bool (U5 x0 x1 x2 x3 x4 x5 x6 x7),[]⟩:=(GM x0 x1 x2 x3 x4 x5 x6 x7).choose_spec
theorem sA (x0 x1 x2 x3 x4 x5 x6 x7:Int): ∃r:Int,Ev E 201 [.agg [vi x0,vi x1,vi x2],.agg [vi x3,vi x4,vi x5],.agg [vi x6,vi x7]] ⟨vi r,[]⟩:=by
 refine eR (Ev.eQ rfl rfl rfl ?_)
 conv=>whnf
 repeat' (first| intro g| apply ca (nB _ _) | apply ca (GL _ _ _ _ _) | apply ca (mJ _ _ _ _ _ _ _ _ _) | refine st ?_| refine br ?_ ?_<;>intro hc| rfl) <;>conv=>whnf
 all_goals exact⟨_,rfl⟩
noncomputable def zD (x0 x1 x2 x3 x4 x5 x6 x7:Int):Int:=(sA x0 x1 x2 x3 x4 x5 x6 x7).choose
theorem BV (x0 x1 x2 x3 x4 x5 x6 x7:Int):Ev E 201 [.agg [vi x0,vi x1,vi x2],.agg [vi x3,vi x4,vi x5],.agg [vi x6,vi x7]] ⟨vi (zD x0 x1 x2 x3 x4 x5 x6 x7),[]⟩:=(sA x0 x1 x2 x3 x4 x5 x6 x7).choose_spec
theorem ux (x0 x1 x2 x3 x4 x5 x6 x7 x8 x9 LH LI LJ LK:Int): ∃r:Bool,Ev E 202 [.agg [vi x0,vi x1,vi x2,vi x3,vi x4,vi x5,vi x6],.agg [vi x7,vi x8,vi x9,vi LH,vi LI,vi LJ,vi LK]] ⟨.bool r,[]⟩:=by
 refine eR (Ev.eQ rfl rfl rfl ?_)
 conv=>whnf
 repeat' (first| intro g| apply ca (BU _ _ _ _) | apply ca (mJ _ _ _ _ _ _ _ _ _) | refine st ?_| refine br ?_ ?_<;>intro hc| rfl) <;>conv=>whnf
 all_goals exact⟨_,rfl⟩
noncomputable def Jm (x0 x1 x2 x3 x4 x5 x6 x7 x8 x9 LH LI LJ LK:Int):Bool:=(ux x0 x1 x2 x3 x4 x5 x6 x7 x8 x9 LH LI LJ LK).choose
theorem wz (x0 x1 x2 x3 x4 x5 x6 x7 x8 x9 LH LI LJ LK:Int):Ev E 202 [.agg [vi x0,vi x1,vi x2,vi x3,vi x4,vi x5,vi x6],.agg [vi x7,vi x8,vi x9,vi LH,vi LI,vi LJ,vi LK]] ⟨.bool (Jm x0 x1 x2 x3 x4 x5 x6 x7 x8 x9 LH LI LJ LK),[]⟩:=(ux x0 x1 x2 x3 x4 x5 x6 x7 x8 x9 LH LI LJ LK).choose_spec
end Go.AM
namespace Go.AM
theorem Ns {α α2 β:Type} {P:α→α2→β→Prop} (h: ∀a b,∃c,P a b c): ∃F:α→α2→β,∀a b,P a b (F a b):=⟨fun a b=> (h a b).choose,fun a b=> (h a b).choose_spec⟩
end Go.AM
namespace Go.AM
structure xW where
 x:Int
 y:Int
 z:Int
def xW.v (s:xW):V:= .agg [vi s.x,vi s.y,vi s.z]
structure dJ where
 id:Int
 lY:List xW
 left:Int
 right:Int
def dJ.v (t:dJ):V:= .agg [vi t.id,.lit 3 (t.lY.map xW.v),vi t.left,vi t.right]
theorem xW.cA (l:List xW):V.al (l.map xW.v)=true:=AM.cA (fun _=>rfl) l
theorem dJ.cA (l:List dJ):V.al (l.map dJ.v)=true:=AM.cA (fun _=>rfl) l
def Pf (ts:List dJ):Prop:=ts.length< 1000∧ ∀t ∈ ts,t.lY.length≤5
theorem Ex {es:List Edge} {n:Nat} (he:kf es n) (hn:n< 1000): ∃res,Ev E 164 [.lit 4 (es.map Edge.v)] res∧ ∃ts:List dJ,Pf ts∧res=⟨.own 4 (ts.map dJ.v),[]⟩:=by
 refine Ev.eQ rfl rfl rfl ?_
 have qg:=he.1
 conv=>whnf
 repeat' (first| intro g| refine st ?_| refine br ?_ ?_<;>intro hc| rfl) <;>conv=>whnf
 refine a8.by (fun ((k,ts,g):Nat×List dJ×Nat)=> ⟨[(0,.lit 4 (es.map Edge.v)),(3,.sl 65 g 0 ts.length),(4,aL k)],[(65,⟨g,4,true,false,some (ts.map dJ.v)⟩)]⟩)
  (fun (k,ts,g)=>k≤es.length∧ts.length=k∧ ∀t ∈ ts,t.lY.length≤5) (fun (k,_)=>es.length - k) (0,[],g) su ⟨Zm,Zm,Zm⟩ ?_
 rintro⟨k,ts,g⟩ ⟨hk,ht,Tj⟩
 try dsimp only at hk ht Tj
 by_cases bz:k<es.length
 ·obtain⟨e,nQ⟩: ∃e,es[k]? =some e:=⟨_,bp bz⟩
  have Ve:=he.2 e (List.mem_of_getElem? nQ)
  have Ny:=Ve.1
  have xD:=Ve.2
  conv=>whnf
  repeat' (first| intro g| refine wi (aA nQ rfl) ?_| refine st ?_| refine br ?_ ?_<;>intro hc| rfl) <;>conv=>whnf
  rename_i g5
  refine a8.by (fun ((i,ss,og):Nat×List xW×Option Nat)=> ⟨[(0,.lit 4 (es.map Edge.v)),(3,.sl 65 g5 0 ts.length),(4,aL k),(5,.ptr 96 g 0 0),(6,aL i)],
   match og with
   | none=> [(65,⟨g5,4,true,false,some (ts.map dJ.v)⟩),(96,⟨g,4,false,false,some [.agg [vi e.id,.nils,vi e.left,vi e.right]]⟩)]
   | some g9=> [(65,⟨g5,4,true,false,some (ts.map dJ.v)⟩),(96,⟨g,4,false,false,some [.agg [vi e.id,.sl 99 g9 0 ss.length,vi e.left,vi e.right]]⟩),(99,⟨g9,3,true,false,some (ss.map xW.v)⟩)]⟩)
   (fun (i,ss,og)=>i≤e.line.length∧ss.length=i∧(og=none→ss=[])) (fun (i,_)=>e.line.length - i) (0,[],none) ?_ ⟨Zm,Zm,Zm⟩ ?_
  ·exact su
  rintro⟨i,ss,og⟩ ⟨hi,hs,LP⟩
  try dsimp only at hi hs LP
  by_cases A8:i<e.line.length
  ·obtain⟨x,hx⟩: ∃x,e.line[i]? =some x:=⟨_,bp A8⟩
   have wF:Ev E 199 [x.v] ⟨.agg [vi x.x,vi x.y,vi 1],[]⟩:=nB x.x x.y
   cases og with
   | none=>
     obtain rfl:=LP rfl
     conv=>whnf
     repeat' (first| intro g| refine wi (aA nQ rfl) ?_| refine wi (aA hx rfl) ?_| apply ca wF| refine st ?_| refine br ?_ ?_<;>intro hc| rfl) <;>conv=>whnf
     exact bo.mk (i+1,[⟨x.x,x.y,1⟩],some g) om ⟨om,by simp at hs ⊢;omega,Zm⟩ su
   | some g9=>
     conv=>whnf
     repeat' (first| intro g| refine wi (aA nQ rfl) ?_| refine wi (aA hx rfl) ?_| apply ca wF| refine st ?_| refine br ?_ ?_<;>intro hc| rfl) <;>conv=>whnf
     exact bo.mk (i+1,ss++[⟨x.x,x.y,1⟩],some g) om ⟨om,by simp;omega,Zm⟩ su
  ·cases og with
   | none=>
     obtain rfl:=LP rfl
     simp at hs
     omega
   | some g9=>
     conv=>whnf
     repeat' (first| intro g| refine wi (aA nQ rfl) ?_| refine st ?_| refine br ?_ ?_<;>intro hc| rfl) <;>conv=>whnf
     refine bo.mk (k+1,ts++[⟨e.id,ss,e.left,e.right⟩],g) om ⟨om,by simp;omega,?_⟩ su
     intro t h
     rcases ZF.1 h with h| h
     ·exact Tj t h
     ·have:t=⟨e.id,ss,e.left,e.right⟩:=by simpa using h
      subst this;dsimp only;omega
 ·conv=>whnf
  repeat' (first| intro g| refine st ?_| refine br ?_ ?_<;>intro hc| rfl) <;>conv=>whnf
  exact⟨ts,⟨Zl,Tj⟩,rfl⟩
end Go.AM
namespace Go.AM
theorem xX {ts:List dJ} (ht:Pf ts) (p:Pt): ∃ (r:Int) (b:Bool),Ev E 163 [.lit 4 (ts.map dJ.v),p.v] ⟨.tuple [vi r,.bool b],[]⟩:=by
 have key:=Ev.eQ (R:=fun res=> ∃ (r:Int) (b:Bool),res=⟨.tuple [vi r,.bool b],[]⟩) OF (OG [.lit 4 (ts.map dJ.v),p.v]) rfl ?_
 ·obtain⟨res,h1,r,b,rfl⟩:=key
  exact⟨r,b,h1⟩
 have wF:Ev E 199 [p.v] ⟨.agg [vi p.x,vi p.y,vi 1],[]⟩:=nB p.x p.y
 have LB:=ht.1
 conv=>whnf
 repeat' (first| intro g| apply ca wF| apply ca (uw _ _ _) | refine st ?_| refine br ?_ ?_<;>intro hc| rfl) <;>conv=>whnf
 ·exact⟨_,_,rfl⟩
 refine a8.by (fun (k:Nat)=> ⟨[(0,.lit 4 (ts.map dJ.v)),(3,.ptr 64 g 0 0),(6,aL k)],[(64,⟨g,2,false,false,some [p.v]⟩)]⟩)
  (fun k=>k≤ts.length) (fun k=>ts.length - k) 0 su om ?_
 intro k hk
 by_cases bz:k<ts.length
 ·obtain⟨t,he⟩: ∃t,ts[k]? =some t:=⟨_,bp bz⟩
  have WX:=ht.2 t (List.mem_of_getElem? he)
  conv=>whnf
  repeat' (first| intro g| refine st ?_| refine br ?_ ?_<;>intro hc| rfl) <;>conv=>whnf
  refine a8.by (fun (i:Nat)=> ⟨[(0,.lit 4 (ts.map dJ.v)),(3,.ptr 64 g 0 0),(6,aL k),(7,aL i)],[(64,⟨g,2,false,false,some [p.v]⟩)]⟩)
   (fun i=>i≤t.lY.length) (fun i=>t.lY.length - i) 0 su om ?_
  intro i hi
  by_cases A8:i<t.lY.length
  ·obtain⟨s,hs⟩: ∃s,t.lY[i]? =some s:=⟨_,bp A8⟩
   have hb:Ev E 198 [s.v] ⟨.bool (zB s.x s.y s.z),[]⟩:=uw s.x s.y s.z
   conv=>whnf
   repeat' (first| intro g| refine wi (aA he rfl) ?_| refine wi (aA hs rfl) ?_| apply ca hb| refine st ?_| refine br ?_ ?_<;>intro hc| rfl) <;>conv=>whnf
   ·exact⟨_,_,rfl⟩
   ·exact bo.mk (i+1) om om su
  ·conv=>whnf
   repeat' (first| intro g| refine wi (aA he rfl) ?_| refine st ?_| refine br ?_ ?_<;>intro hc| rfl) <;>conv=>whnf
   exact bo.mk (k+1) om om su
 ·conv=>whnf
  repeat' (first| intro g| refine st ?_| refine br ?_ ?_<;>intro hc| rfl) <;>conv=>whnf
  rename_i g3
  refine a8.by (fun ((k,found,a1,a2,a3,a4,a5,a6,a7):Nat×Bool×Int×Int×Int×Int×Int×Int×Int)=> ⟨[(0,.lit 4 (ts.map dJ.v)),(3,.ptr 64 g3 0 0),(8,.bool found),(9,.ptr 160 g 0 0),(10,aL k)],[(64,⟨g3,2,false,false,some [p.v]⟩),(160,⟨g,7,false,false,some [.agg [vi a1,vi a2,vi a3,vi a4,vi a5,vi a6,vi a7]]⟩)]⟩)
   (fun (k,_)=>k≤ts.length) (fun (k,_)=>ts.length - k) (0,false,0,0,0,0,0,0,0) su om ?_
  rintro⟨k,found,a1,a2,a3,a4,a5,a6,a7⟩ hk
  try dsimp only at hk
  by_cases bz:k<ts.length
  ·obtain⟨t,he⟩: ∃t,ts[k]? =some t:=⟨_,bp bz⟩
   have WX:=ht.2 t (List.mem_of_getElem? he)
   conv=>whnf
   repeat' (first| intro g| refine st ?_| refine br ?_ ?_<;>intro hc| rfl) <;>conv=>whnf
   refine a8.by (fun ((j,found,a1,a2,a3,a4,a5,a6,a7):Nat×Bool×Int×Int×Int×Int×Int×Int×Int)=> ⟨[(0,.lit 4 (ts.map dJ.v)),(3,.ptr 64 g3 0 0),(8,.bool found),(9,.ptr 160 g 0 0),(10,aL k),(11,aL j)],[(64,⟨g3,2,false,false,some [p.v]⟩),(160,⟨g,7,false,false,some [.agg [vi a1,vi a2,vi a3,vi a4,vi a5,vi a6,vi a7]]⟩)]⟩)
    (fun (j,_)=>j≤t.lY.length) (fun (j,_)=>t.lY.length - j) (0,found,a1,a2,a3,a4,a5,a6,a7) su om ?_
   rintro⟨j,found,a1,a2,a3,a4,a5,a6,a7⟩ hj
   try dsimp only at hj
   have e1:IntKind.i64.wrap ((j:Int)+1)=((j+1:Nat):Int):=wt
   by_cases WY:j+1 <t.lY.length
   ·obtain⟨x,hx⟩: ∃s,t.lY[j]? =some s:=⟨_,bp Zl⟩
    obtain⟨y,hy⟩: ∃s,t.lY[j+1]? =some s:=⟨_,bp WY⟩
    have Nu:Ev E 200 [x.v,y.v,p.v] ⟨.bool (U5 x.x x.y x.z y.x y.y y.z p.x p.y),[]⟩:=O3 _ _ _ _ _ _ _ _
    have Pg:Ev E 201 [x.v,y.v,p.v] ⟨vi (zD x.x x.y x.z y.x y.y y.z p.x p.y),[]⟩:=BV _ _ _ _ _ _ _ _
    cases found
    ·  conv=>whnf
       repeat' (first| intro g| refine wi (aA he rfl) ?_| refine wi (aA hx rfl) ?_| refine wi (aA hy e1) ?_| apply ca Nu| apply ca Pg| apply ca (wz _ _ _ _ _ _ _ _ _ _ _ _ _ _) | refine st ?_| refine br ?_ ?_<;>intro hc| rfl) <;>conv=>whnf
       ·exact⟨_,_,rfl⟩
       ·exact bo.mk (j+1,true,y.x,y.y,y.z,x.x,x.y,x.z,t.left) om om su
       ·exact bo.mk (j+1,true,x.x,x.y,x.z,y.x,y.y,y.z,t.right) om om su
       ·exact bo.mk (j+1,false,a1,a2,a3,a4,a5,a6,a7) om om su
    ·  conv=>whnf
       repeat' (first| intro g| refine wi (aA he rfl) ?_| refine wi (aA hx rfl) ?_| refine wi (aA hy e1) ?_| apply ca Nu| apply ca Pg| apply ca (wz _ _ _ _ _ _ _ _ _ _ _ _ _ _) | refine st ?_| refine br ?_ ?_<;>intro hc| rfl) <;>conv=>whnf
       ·exact⟨_,_,rfl⟩
       ·exact bo.mk (j+1,true,y.x,y.y,y.z,x.x,x.y,x.z,t.left) om om su
       ·exact bo.mk (j+1,true,a1,a2,a3,a4,a5,a6,a7) om om su
       ·exact bo.mk (j+1,true,x.x,x.y,x.z,y.x,y.y,y.z,t.right) om om su
       ·exact bo.mk (j+1,true,a1,a2,a3,a4,a5,a6,a7) om om su
       ·exact bo.mk (j+1,true,a1,a2,a3,a4,a5,a6,a7) om om su
   ·conv=>whnf
    repeat' (first| intro g| refine wi (aA he rfl) ?_| refine st ?_| refine br ?_ ?_<;>intro hc| rfl) <;>conv=>whnf
    exact bo.mk (k+1,found,a1,a2,a3,a4,a5,a6,a7) om om su
  ·conv=>whnf
   repeat' (first| intro g| refine st ?_| refine br ?_ ?_<;>intro hc| rfl) <;>conv=>whnf
   exact⟨_,_,rfl⟩
end Go.AM
namespace Go.AM
theorem L1 {es:List Edge} {n:Nat} (he:kf es n) (hn:n< 1000) (p:Pt): ∃ (r:Int) (b:Bool),Ev E 121 [.lit 4 (es.map Edge.v),p.v] ⟨.tuple [vi r,.bool b],[]⟩:=by
 have key:=Ev.eQ (R:=fun res=> ∃ (r:Int) (b:Bool),res=⟨.tuple [vi r,.bool b],[]⟩) OB (OC [.lit 4 (es.map Edge.v),p.v]) rfl ?_
 ·obtain⟨res,h1,r,b,rfl⟩:=key
  exact⟨r,b,h1⟩
 conv=>whnf
 repeat' (first| intro g| refine st ?_| refine br ?_ ?_<;>intro hc| rfl) <;>conv=>whnf
 refine c6.ex (Ex he hn) ?_
 rintro _ ⟨ts,ht,rfl⟩
 obtain⟨r,b,hr⟩:=xX ht p
 conv=>whnf
 repeat' (first| intro g| apply ca hr| refine st ?_| refine br ?_ ?_<;>intro hc| rfl) <;>conv=>whnf
 exact⟨_,_,rfl⟩
theorem qp (m:bA) (hf:m.b9.length< 1000) (id:Int): ∃r:Int,Ev E 122 [m.v,vi id] ⟨vi r,[]⟩:=by
 refine eR (Ev.eQ rfl rfl rfl ?_)
 conv=>whnf
 repeat' (first| intro g| refine st ?_| refine br ?_ ?_<;>intro hc| rfl) <;>conv=>whnf
 refine a8.by (fun (k:Nat)=> ⟨[(1,vi id),(2,.ptr 48 g 0 0),(5,aL k)],[(48,⟨g,4,false,false,some [m.v]⟩)]⟩)
  (fun k=>k≤m.b9.length) (fun k=>m.b9.length - k) 0 su om ?_
 intro k hk
 by_cases bz:k<m.b9.length
 ·obtain⟨f,hx⟩: ∃f,m.b9[k]? =some f:=⟨_,bp bz⟩
  conv=>whnf
  repeat' (first| intro g| refine wi (aA hx rfl) ?_| refine st ?_| refine br ?_ ?_<;>intro hc| rfl) <;>conv=>whnf
  ·exact⟨_,rfl⟩
  ·exact bo.mk (k+1) om om su
 ·conv=>whnf
  repeat' (first| intro g| refine st ?_| refine br ?_ ?_<;>intro hc| rfl) <;>conv=>whnf
  exact⟨_,rfl⟩
end Go.AM
