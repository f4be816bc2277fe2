/-
  Texts of the proof, joined by program: SFarA, SFarB, SFarC, SFarD. Own work.
-/
import Derived.Test.YtgkdgapmmkkcaaaGreatData
import Derived.Test.YtgkdgapmmkkcaaaGreatMa
import Derived.Test.YtgkdgapmmkkcaaaGreatMb
set_option linter.unusedSimpArgs false
set_option linter.unusedVariables false
set_option maxRecDepth 20000
set_option maxHeartbeats 4000000
namespace Go.AM
theorem wH (x0:Int): ∃r:Int,Ev E 283 [vi x0] ⟨vi r,[]⟩:=by
 have key:=Ev.cQ (R:=fun res=> ∃r:Int,res=⟨vi r,[]⟩) P7 (P8 [vi x0]) rfl ?_
 · obtain⟨res,h1,r,rfl⟩:=key
   exact⟨r,h1⟩
 (conv=>whnf);repeat' ((first| intro g| refine st ?_| (first| refine b1 ?_ ?_| refine b2 ?_ ?_| refine Br.mk ?_ ?_) <;>intro hc| exact rfl) <;>conv=>whnf)
 all_goals exact⟨_,rfl⟩
noncomputable def CD (x0:Int):Int:=(wH x0).choose
theorem Fw (x0:Int):Ev E 283 [vi x0] ⟨vi (CD x0),[]⟩:=(wH x0).choose_spec
theorem wI (x0:Int): ∃r:Int,Ev E 285 [vi x0] ⟨.int .u64 r,[]⟩:=by
 have key:=Ev.cQ (R:=fun res=> ∃r:Int,res=⟨.int .u64 r,[]⟩) Qb (Qc [vi x0]) rfl ?_
 · obtain⟨res,h1,r,rfl⟩:=key
   exact⟨r,h1⟩
 (conv=>whnf);repeat' ((first| intro g| refine st ?_| (first| refine b1 ?_ ?_| refine b2 ?_ ?_| refine Br.mk ?_ ?_) <;>intro hc| exact rfl) <;>conv=>whnf)
 all_goals exact⟨_,rfl⟩
noncomputable def wJ (x0:Int):Int:=(wI x0).choose
theorem Fy (x0:Int):Ev E 285 [vi x0] ⟨.int .u64 (wJ x0),[]⟩:=(wI x0).choose_spec
theorem qQ (x0 x1:Int): ∃r:Int×Int,Ev E 284 [.int .u64 x0,.int .u64 x1] ⟨.agg [.int .u64 r.1,.int .u64 r.2],[]⟩:=by
 have key:=Ev.cQ (R:=fun res=> ∃r:Int×Int,res=⟨.agg [.int .u64 r.1,.int .u64 r.2],[]⟩) P9 (Qa [.int .u64 x0,.int .u64 x1]) rfl ?_
 · obtain⟨res,h1,r,rfl⟩:=key
   exact⟨r,h1⟩
 (conv=>whnf);repeat' ((first| intro g| refine st ?_| (first| refine b1 ?_ ?_| refine b2 ?_ ?_| refine Br.mk ?_ ?_) <;>intro hc| exact rfl) <;>conv=>whnf)
 all_goals exact⟨⟨_,_⟩,rfl⟩
noncomputable def o8 (x0 x1:Int):Int×Int:=(qQ x0 x1).choose
theorem yC (x0 x1:Int):Ev E 284 [.int .u64 x0,.int .u64 x1] ⟨.agg [.int .u64 (o8 x0 x1).1,.int .u64 (o8 x0 x1).2],[]⟩:=(qQ x0 x1).choose_spec
theorem qR (x0 x1 x2:Int): ∃r:Bool,Ev E 282 [vi x0,vi x1,vi x2] ⟨.bool r,[]⟩:=by
 have key:=Ev.cQ (R:=fun res=> ∃r:Bool,res=⟨.bool r,[]⟩) P5 (P6 [vi x0,vi x1,vi x2]) rfl ?_
 · obtain⟨res,h1,r,rfl⟩:=key
   exact⟨r,h1⟩
 (conv=>whnf);repeat' ((first| intro g| refine st ?_| (first| refine b1 ?_ ?_| refine b2 ?_ ?_| refine Br.mk ?_ ?_) <;>intro hc| exact rfl) <;>conv=>whnf)
 all_goals exact⟨_,rfl⟩
noncomputable def CE (x0 x1 x2:Int):Bool:=(qR x0 x1 x2).choose
theorem yD (x0 x1 x2:Int):Ev E 282 [vi x0,vi x1,vi x2] ⟨.bool (CE x0 x1 x2),[]⟩:=(qR x0 x1 x2).choose_spec
theorem zK (x0 x1 x2:Int): ∃r:Bool,Ev E 270 [.agg [vi x0,vi x1,vi x2]] ⟨.bool r,[]⟩:=by
 have key:=Ev.cQ (R:=fun res=> ∃r:Bool,res=⟨.bool r,[]⟩) P1 (P2 [.agg [vi x0,vi x1,vi x2]]) rfl ?_
 · obtain⟨res,h1,r,rfl⟩:=key
   exact⟨r,h1⟩
 (conv=>whnf);repeat' ((first| intro g| refine ag.mk _ (yD _ _ _) ?_| refine st ?_| (first| refine b1 ?_ ?_| refine b2 ?_ ?_| refine Br.mk ?_ ?_) <;>intro hc| exact rfl) <;>conv=>whnf)
 all_goals exact⟨_,rfl⟩
noncomputable def VA (x0 x1 x2:Int):Bool:=(zK x0 x1 x2).choose
theorem KF (x0 x1 x2:Int):Ev E 270 [.agg [vi x0,vi x1,vi x2]] ⟨.bool (VA x0 x1 x2),[]⟩:=(zK x0 x1 x2).choose_spec
theorem qS (x0 x1 x2:Int): ∃r:Bool,Ev E 198 [.agg [vi x0,vi x1,vi x2]] ⟨.bool r,[]⟩:=by
 have key:=Ev.cQ (R:=fun res=> ∃r:Bool,res=⟨.bool r,[]⟩) PI (PJ [.agg [vi x0,vi x1,vi x2]]) rfl ?_
 · obtain⟨res,h1,r,rfl⟩:=key
   exact⟨r,h1⟩
 (conv=>whnf);repeat' ((first| intro g| refine st ?_| (first| refine b1 ?_ ?_| refine b2 ?_ ?_| refine Br.mk ?_ ?_) <;>intro hc| exact rfl) <;>conv=>whnf)
 all_goals exact⟨_,rfl⟩
noncomputable def wK (x0 x1 x2:Int):Bool:=(qS x0 x1 x2).choose
theorem sE (x0 x1 x2:Int):Ev E 198 [.agg [vi x0,vi x1,vi x2]] ⟨.bool (wK x0 x1 x2),[]⟩:=(qS x0 x1 x2).choose_spec
theorem m7 (x y:Int):Ev E 199 [.agg [vi x,vi y]] ⟨.agg [vi x,vi y,vi 1],[]⟩:=by
 refine Ev.cY PK (PL _) rfl ?_
 (conv=>whnf);repeat' ((first| intro g| refine st ?_| (first| refine b1 ?_ ?_| refine b2 ?_ ?_| refine Br.mk ?_ ?_) <;>intro hc| exact rfl) <;>conv=>whnf)
theorem uF (x0 x1 x2 x3:Int): ∃r:Int,Ev E 271 [vi x0,vi x1,vi x2,vi x3] ⟨vi r,[]⟩:=by
 have key:=Ev.cQ (R:=fun res=> ∃r:Int,res=⟨vi r,[]⟩) P3 (P4 [vi x0,vi x1,vi x2,vi x3]) rfl ?_
 · obtain⟨res,h1,r,rfl⟩:=key
   exact⟨r,h1⟩
 (conv=>whnf);repeat' ((first| intro g| refine ag.mk _ (Fw _) ?_| refine ag.mk _ (Fy _) ?_| refine ag.mk _ (yC _ _) ?_| refine st ?_| (first| refine b1 ?_ ?_| refine b2 ?_ ?_| refine Br.mk ?_ ?_) <;>intro hc| exact rfl) <;>conv=>whnf)
 · exact⟨_,rfl⟩
 rename_i rX
 generalize hu:o8 (wJ x0) (wJ x1)=u
 generalize hv:o8 (wJ x2) (wJ x3)=v
 obtain⟨u0,u1⟩:=u
 obtain⟨v0,v1⟩:=v
 generalize hs:IntKind.i64.wrap (CD x0*CD x1)=s
 refine ba.by (fun (k:Nat)=> ⟨[(9,vi s),(11,.ptr 192 rX 0 0),(12,.ptr 208 g 0 0),(13,aT k)],[(192,⟨rX,2,false,false,some [.agg [.int .u64 u0,.int .u64 u1]]⟩),(208,⟨g,2,false,false,some [.agg [.int .u64 v0,.int .u64 v1]]⟩)]⟩)
   (fun k=>k≤2) (fun k=>2 - k) 0 (by(refine⟨?_,?_⟩ <;>repeat' (first| exact True.intro| refine ai ?_| refine And.intro ?_ ?_))) (by first| omega| (dsimp only;omega)) ?_
 intro k hk
 rcases(by omega:k=0∨k=1∨k=2) with rfl| rfl| rfl
 · (conv=>whnf);repeat' ((first| intro g| refine st ?_| (first| refine b1 ?_ ?_| refine b2 ?_ ?_| refine Br.mk ?_ ?_) <;>intro hc| exact rfl) <;>conv=>whnf)
   all_goals first| exact⟨_,rfl⟩ | exact bI.mk 1 (by first| omega| (dsimp only;omega)) (by first| omega| (dsimp only;omega)) (by(refine⟨?_,?_⟩ <;>repeat' (first| exact True.intro| refine ai ?_| refine And.intro ?_ ?_)))
 · (conv=>whnf);repeat' ((first| intro g| refine st ?_| (first| refine b1 ?_ ?_| refine b2 ?_ ?_| refine Br.mk ?_ ?_) <;>intro hc| exact rfl) <;>conv=>whnf)
   all_goals first| exact⟨_,rfl⟩ | exact bI.mk 2 (by first| omega| (dsimp only;omega)) (by first| omega| (dsimp only;omega)) (by(refine⟨?_,?_⟩ <;>repeat' (first| exact True.intro| refine ai ?_| refine And.intro ?_ ?_)))
 · (conv=>whnf);repeat' ((first| intro g| refine st ?_| (first| refine b1 ?_ ?_| refine b2 ?_ ?_| refine Br.mk ?_ ?_) <;>intro hc| exact rfl) <;>conv=>whnf)
   exact⟨_,rfl⟩
noncomputable def KG (x0 x1 x2 x3:Int):Int:=(uF x0 x1 x2 x3).choose
theorem wL (x0 x1 x2 x3:Int):Ev E 271 [vi x0,vi x1,vi x2,vi x3] ⟨vi (KG x0 x1 x2 x3),[]⟩:=(uF x0 x1 x2 x3).choose_spec
theorem zL (x0 x1 x2 x3:Int): ∃r:Int,Ev E 238 [.agg [vi x0,vi x1],.agg [vi x2,vi x3]] ⟨vi r,[]⟩:=by
 have key:=Ev.cQ (R:=fun res=> ∃r:Int,res=⟨vi r,[]⟩) PZ (P0 [.agg [vi x0,vi x1],.agg [vi x2,vi x3]]) rfl ?_
 · obtain⟨res,h1,r,rfl⟩:=key
   exact⟨r,h1⟩
 (conv=>whnf);repeat' ((first| intro g| refine ag.mk _ (wL _ _ _ _) ?_| refine st ?_| (first| refine b1 ?_ ?_| refine b2 ?_ ?_| refine Br.mk ?_ ?_) <;>intro hc| exact rfl) <;>conv=>whnf)
 all_goals exact⟨_,rfl⟩
noncomputable def VB (x0 x1 x2 x3:Int):Int:=(zL x0 x1 x2 x3).choose
theorem yE (x0 x1 x2 x3:Int):Ev E 238 [.agg [vi x0,vi x1],.agg [vi x2,vi x3]] ⟨vi (VB x0 x1 x2 x3),[]⟩:=(zL x0 x1 x2 x3).choose_spec
theorem uG (x0 x1 x2 x3 x4:Int): ∃r:Int,Ev E 236 [vi x0,.agg [vi x1,vi x2],.agg [vi x3,vi x4]] ⟨vi r,[]⟩:=by
 have key:=Ev.cQ (R:=fun res=> ∃r:Int,res=⟨vi r,[]⟩) PV (PW [vi x0,.agg [vi x1,vi x2],.agg [vi x3,vi x4]]) rfl ?_
 · obtain⟨res,h1,r,rfl⟩:=key
   exact⟨r,h1⟩
 (conv=>whnf);repeat' ((first| intro g| refine ag.mk _ (yE _ _ _ _) ?_| refine st ?_| (first| refine b1 ?_ ?_| refine b2 ?_ ?_| refine Br.mk ?_ ?_) <;>intro hc| exact rfl) <;>conv=>whnf)
 all_goals exact⟨_,rfl⟩
noncomputable def KH (x0 x1 x2 x3 x4:Int):Int:=(uG x0 x1 x2 x3 x4).choose
theorem CF (x0 x1 x2 x3 x4:Int):Ev E 236 [vi x0,.agg [vi x1,vi x2],.agg [vi x3,vi x4]] ⟨vi (KH x0 x1 x2 x3 x4),[]⟩:=(uG x0 x1 x2 x3 x4).choose_spec
theorem uH (x0 x1 x2 x3 x4:Int): ∃r:Bool,Ev E 237 [.agg [vi x0,vi x1,vi x2],.agg [vi x3,vi x4]] ⟨.bool r,[]⟩:=by
 have key:=Ev.cQ (R:=fun res=> ∃r:Bool,res=⟨.bool r,[]⟩) PX (PY [.agg [vi x0,vi x1,vi x2],.agg [vi x3,vi x4]]) rfl ?_
 · obtain⟨res,h1,r,rfl⟩:=key
   exact⟨r,h1⟩
 (conv=>whnf);repeat' ((first| intro g| refine ag.mk _ (yE _ _ _ _) ?_| refine st ?_| (first| refine b1 ?_ ?_| refine b2 ?_ ?_| refine Br.mk ?_ ?_) <;>intro hc| exact rfl) <;>conv=>whnf)
 all_goals exact⟨_,rfl⟩
noncomputable def KI (x0 x1 x2 x3 x4:Int):Bool:=(uH x0 x1 x2 x3 x4).choose
theorem CG (x0 x1 x2 x3 x4:Int):Ev E 237 [.agg [vi x0,vi x1,vi x2],.agg [vi x3,vi x4]] ⟨.bool (KI x0 x1 x2 x3 x4),[]⟩:=(uH x0 x1 x2 x3 x4).choose_spec
theorem o9 (x0 x1 x2 x3 x4 x5 x6 x7 x8:Int): ∃r:Int,Ev E 235 [.agg [vi x0,vi x1,vi x2],.agg [vi x3,vi x4,vi x5],.agg [vi x6,vi x7,vi x8]] ⟨vi r,[]⟩:=by
 have key:=Ev.cQ (R:=fun res=> ∃r:Int,res=⟨vi r,[]⟩) PT (PU [.agg [vi x0,vi x1,vi x2],.agg [vi x3,vi x4,vi x5],.agg [vi x6,vi x7,vi x8]]) rfl ?_
 · obtain⟨res,h1,r,rfl⟩:=key
   exact⟨r,h1⟩
 (conv=>whnf);repeat' ((first| intro g| refine ag.mk _ (KF _ _ _) ?_| refine ag.mk _ (wL _ _ _ _) ?_| refine st ?_| (first| refine b1 ?_ ?_| refine b2 ?_ ?_| refine Br.mk ?_ ?_) <;>intro hc| exact rfl) <;>conv=>whnf)
 all_goals exact⟨_,rfl⟩
noncomputable def AZ (x0 x1 x2 x3 x4 x5 x6 x7 x8:Int):Int:=(o9 x0 x1 x2 x3 x4 x5 x6 x7 x8).choose
theorem mb (x0 x1 x2 x3 x4 x5 x6 x7 x8:Int):Ev E 235 [.agg [vi x0,vi x1,vi x2],.agg [vi x3,vi x4,vi x5],.agg [vi x6,vi x7,vi x8]] ⟨vi (AZ x0 x1 x2 x3 x4 x5 x6 x7 x8),[]⟩:=(o9 x0 x1 x2 x3 x4 x5 x6 x7 x8).choose_spec
theorem CH (x0 x1 x2 x3 x4 x5 x6 x7:Int): ∃r:Bool,Ev E 200 [.agg [vi x0,vi x1,vi x2],.agg [vi x3,vi x4,vi x5],.agg [vi x6,vi x7]] ⟨.bool r,[]⟩:=by
 have key:=Ev.cQ (R:=fun res=> ∃r:Bool,res=⟨.bool r,[]⟩) PM (PN [.agg [vi x0,vi x1,vi x2],.agg [vi x3,vi x4,vi x5],.agg [vi x6,vi x7]]) rfl ?_
 · obtain⟨res,h1,r,rfl⟩:=key
   exact⟨r,h1⟩
 (conv=>whnf);repeat' ((first| intro g| refine ag.mk _ (m7 _ _) ?_| refine ag.mk _ (mb _ _ _ _ _ _ _ _ _) ?_| refine ag.mk _ (CF _ _ _ _ _) ?_| refine st ?_| (first| refine b1 ?_ ?_| refine b2 ?_ ?_| refine Br.mk ?_ ?_) <;>intro hc| exact rfl) <;>conv=>whnf)
 all_goals exact⟨_,rfl⟩
noncomputable def Xk (x0 x1 x2 x3 x4 x5 x6 x7:Int):Bool:=(CH x0 x1 x2 x3 x4 x5 x6 x7).choose
theorem Qj (x0 x1 x2 x3 x4 x5 x6 x7:Int):Ev E 200 [.agg [vi x0,vi x1,vi x2],.agg [vi x3,vi x4,vi x5],.agg [vi x6,vi x7]] ⟨.bool (Xk x0 x1 x2 x3 x4 x5 x6 x7),[]⟩:=(CH x0 x1 x2 x3 x4 x5 x6 x7).choose_spec
theorem qT (x0 x1 x2 x3 x4 x5 x6 x7:Int): ∃r:Int,Ev E 201 [.agg [vi x0,vi x1,vi x2],.agg [vi x3,vi x4,vi x5],.agg [vi x6,vi x7]] ⟨vi r,[]⟩:=by
 have key:=Ev.cQ (R:=fun res=> ∃r:Int,res=⟨vi r,[]⟩) PO (PQ [.agg [vi x0,vi x1,vi x2],.agg [vi x3,vi x4,vi x5],.agg [vi x6,vi x7]]) rfl ?_
 · obtain⟨res,h1,r,rfl⟩:=key
   exact⟨r,h1⟩
 (conv=>whnf);repeat' ((first| intro g| refine ag.mk _ (m7 _ _) ?_| refine ag.mk _ (CG _ _ _ _ _) ?_| refine ag.mk _ (mb _ _ _ _ _ _ _ _ _) ?_| refine st ?_| (first| refine b1 ?_ ?_| refine b2 ?_ ?_| refine Br.mk ?_ ?_) <;>intro hc| exact rfl) <;>conv=>whnf)
 all_goals exact⟨_,rfl⟩
noncomputable def wM (x0 x1 x2 x3 x4 x5 x6 x7:Int):Int:=(qT x0 x1 x2 x3 x4 x5 x6 x7).choose
theorem yF (x0 x1 x2 x3 x4 x5 x6 x7:Int):Ev E 201 [.agg [vi x0,vi x1,vi x2],.agg [vi x3,vi x4,vi x5],.agg [vi x6,vi x7]] ⟨vi (wM x0 x1 x2 x3 x4 x5 x6 x7),[]⟩:=(qT x0 x1 x2 x3 x4 x5 x6 x7).choose_spec
theorem sF (x0 x1 x2 x3 x4 x5 x6 x7 x8 x9 GA GB GC GD:Int): ∃r:Bool,Ev E 202 [.agg [vi x0,vi x1,vi x2,vi x3,vi x4,vi x5,vi x6],.agg [vi x7,vi x8,vi x9,vi GA,vi GB,vi GC,vi GD]] ⟨.bool r,[]⟩:=by
 have key:=Ev.cQ (R:=fun res=> ∃r:Bool,res=⟨.bool r,[]⟩) PR (PS [.agg [vi x0,vi x1,vi x2,vi x3,vi x4,vi x5,vi x6],.agg [vi x7,vi x8,vi x9,vi GA,vi GB,vi GC,vi GD]]) rfl ?_
 · obtain⟨res,h1,r,rfl⟩:=key
   exact⟨r,h1⟩
 (conv=>whnf);repeat' ((first| intro g| refine ag.mk _ (yE _ _ _ _) ?_| refine ag.mk _ (mb _ _ _ _ _ _ _ _ _) ?_| refine st ?_| (first| refine b1 ?_ ?_| refine b2 ?_ ?_| refine Br.mk ?_ ?_) <;>intro hc| exact rfl) <;>conv=>whnf)
 all_goals exact⟨_,rfl⟩
noncomputable def Fz (x0 x1 x2 x3 x4 x5 x6 x7 x8 x9 GA GB GC GD:Int):Bool:=(sF x0 x1 x2 x3 x4 x5 x6 x7 x8 x9 GA GB GC GD).choose
theorem uI (x0 x1 x2 x3 x4 x5 x6 x7 x8 x9 GA GB GC GD:Int):Ev E 202 [.agg [vi x0,vi x1,vi x2,vi x3,vi x4,vi x5,vi x6],.agg [vi x7,vi x8,vi x9,vi GA,vi GB,vi GC,vi GD]] ⟨.bool (Fz x0 x1 x2 x3 x4 x5 x6 x7 x8 x9 GA GB GC GD),[]⟩:=(sF x0 x1 x2 x3 x4 x5 x6 x7 x8 x9 GA GB GC GD).choose_spec
end Go.AM
set_option maxRecDepth 20000
namespace Go.AM
structure vE where
 x:Int
 y:Int
 z:Int
def vE.v (s:vE):V:= .agg [vi s.x,vi s.y,vi s.z]
structure ef where
 id:Int
 ll:List vE
 left:Int
 right:Int
def ef.v (t:ef):V:= .agg [vi t.id,.lit 3 (t.ll.map vE.v),vi t.left,vi t.right]
theorem vE.cr (l:List vE):V.aq (l.map vE.v)=true:=AM.cr (fun _=>rfl) l
theorem ef.cr (l:List ef):V.aq (l.map ef.v)=true:=AM.cr (fun _=>rfl) l
def Qk (ts:List ef):Prop:=ts.length< 1000∧ ∀t ∈ ts,t.ll.length≤5
set_option maxHeartbeats 4000000 in
theorem A0 {es:List Edge} {n:Nat} (he:gz es n) (hn:n< 1000): ∃res,Ev E 164 [.lit 4 (es.map Edge.v)] res∧ ∃ts:List ef,Qk ts∧res=⟨.own 4 (ts.map ef.v),[]⟩:=by
 refine Ev.cQ PG (PH _) rfl ?_
 have qO:=he.1
 (conv=>whnf);repeat' ((first| intro g| refine st ?_| (first| refine b1 ?_ ?_| refine b2 ?_ ?_| refine Br.mk ?_ ?_) <;>intro hc| exact rfl) <;>conv=>whnf)
 refine ba.by (fun ((k,ts,g):Nat×List ef×Nat)=> ⟨[(0,.lit 4 (es.map Edge.v)),(3,.sl 65 g 0 ts.length),(4,aT k)],[(65,⟨g,4,true,false,some (ts.map ef.v)⟩)]⟩)
   (fun (k,ts,g)=>k≤es.length∧ts.length=k∧ ∀t ∈ ts,t.ll.length≤5) (fun (k,_)=>es.length - k) (0,[],g) (by(refine⟨?_,?_⟩ <;>repeat' (first| exact True.intro| refine ai ?_| refine And.intro ?_ ?_))) ⟨by simp,by simp,by simp⟩ ?_
 rintro⟨k,ts,g⟩ ⟨hk,ht,VC⟩
 try dsimp only at hk ht VC
 by_cases bA:k<es.length
 · obtain⟨e,mW⟩: ∃e,es[k]? =some e:=⟨_,aJ bA⟩
   have Xl:=he.2 e (List.mem_of_getElem? mW)
   have Xm:=Xl.1
   have zJ:=Xl.2
   (conv=>whnf);repeat' ((first| intro g| refine aL.mk _ (au mW rfl) ?_| refine st ?_| (first| refine b1 ?_ ?_| refine b2 ?_ ?_| refine Br.mk ?_ ?_) <;>intro hc| exact rfl) <;>conv=>whnf)
   rename_i g5
   refine ba.by (fun ((i,ss,og):Nat×List vE×Option Nat)=> ⟨[(0,.lit 4 (es.map Edge.v)),(3,.sl 65 g5 0 ts.length),(4,aT k),(5,.ptr 96 g 0 0),(6,aT i)],
     match og with
     | none=> [(65,⟨g5,4,true,false,some (ts.map ef.v)⟩),(96,⟨g,4,false,false,some [.agg [vi e.id,.nils,vi e.left,vi e.right]]⟩)]
     | some g9=> [(65,⟨g5,4,true,false,some (ts.map ef.v)⟩),(96,⟨g,4,false,false,some [.agg [vi e.id,.sl 99 g9 0 ss.length,vi e.left,vi e.right]]⟩),(99,⟨g9,3,true,false,some (ss.map vE.v)⟩)]⟩)
     (fun (i,ss,og)=>i≤e.line.length∧ss.length=i∧(og=none→ss=[])) (fun (i,_)=>e.line.length - i) (0,[],none) ?_ ⟨by simp,by simp,by simp⟩ ?_
   · (refine⟨?_,?_⟩ <;>repeat' (first| exact True.intro| refine ai ?_| refine And.intro ?_ ?_))
   rintro⟨i,ss,og⟩ ⟨hi,hs,Ky⟩
   try dsimp only at hi hs Ky
   by_cases gS:i<e.line.length
   · obtain⟨x,hx⟩: ∃x,e.line[i]? =some x:=⟨_,aJ gS⟩
     have sG:Ev E 199 [x.v] ⟨.agg [vi x.x,vi x.y,vi 1],[]⟩:=m7 x.x x.y
     cases og with
     | none=>
       obtain rfl:=Ky rfl
       (conv=>whnf);repeat' ((first| intro g| refine aL.mk _ (au mW rfl) ?_| refine aL.mk _ (au hx rfl) ?_| refine ag.mk _ (sG) ?_| refine st ?_| (first| refine b1 ?_ ?_| refine b2 ?_ ?_| refine Br.mk ?_ ?_) <;>intro hc| exact rfl) <;>conv=>whnf)
       exact bI.mk (i+1,[⟨x.x,x.y,1⟩],some g) (by first| omega| (dsimp only;omega)) ⟨(by first| omega| (dsimp only;omega)),by simp at hs ⊢;omega,by simp⟩ (by(refine⟨?_,?_⟩ <;>repeat' (first| exact True.intro| refine ai ?_| refine And.intro ?_ ?_)))
     | some g9=>
       (conv=>whnf);repeat' ((first| intro g| refine aL.mk _ (au mW rfl) ?_| refine aL.mk _ (au hx rfl) ?_| refine ag.mk _ (sG) ?_| refine st ?_| (first| refine b1 ?_ ?_| refine b2 ?_ ?_| refine Br.mk ?_ ?_) <;>intro hc| exact rfl) <;>conv=>whnf)
       exact bI.mk (i+1,ss++[⟨x.x,x.y,1⟩],some g) (by first| omega| (dsimp only;omega)) ⟨(by first| omega| (dsimp only;omega)),by simp;omega,by simp⟩ (by(refine⟨?_,?_⟩ <;>repeat' (first| exact True.intro| refine ai ?_| refine And.intro ?_ ?_)))
   · cases og with
     | none=>
       obtain rfl:=Ky rfl
       simp at hs
       omega
     | some g9=>
       (conv=>whnf);repeat' ((first| intro g| refine aL.mk _ (au mW rfl) ?_| refine st ?_| (first| refine b1 ?_ ?_| refine b2 ?_ ?_| refine Br.mk ?_ ?_) <;>intro hc| exact rfl) <;>conv=>whnf)
       refine bI.mk (k+1,ts++[⟨e.id,ss,e.left,e.right⟩],g) (by first| omega| (dsimp only;omega)) ⟨(by first| omega| (dsimp only;omega)),by simp;omega,?_⟩ (by(refine⟨?_,?_⟩ <;>repeat' (first| exact True.intro| refine ai ?_| refine And.intro ?_ ?_)))
       intro t h
       rcases List.mem_append.1 h with h| h
       · exact VC t h
       · have:t=⟨e.id,ss,e.left,e.right⟩:=by simpa using h
         subst this;dsimp only;omega
 · (conv=>whnf);repeat' ((first| intro g| refine st ?_| (first| refine b1 ?_ ?_| refine b2 ?_ ?_| refine Br.mk ?_ ?_) <;>intro hc| exact rfl) <;>conv=>whnf)
   exact⟨ts,⟨by omega,VC⟩,rfl⟩
end Go.AM
set_option maxRecDepth 20000
namespace Go.AM
set_option maxHeartbeats 4000000 in
theorem vF {ts:List ef} (ht:Qk ts) (p:Pt): ∃ (r:Int) (b:Bool),Ev E 163 [.lit 4 (ts.map ef.v),p.v] ⟨.tuple [vi r,.bool b],[]⟩:=by
 have key:=Ev.cQ (R:=fun res=> ∃ (r:Int) (b:Bool),res=⟨.tuple [vi r,.bool b],[]⟩) PE (PF [.lit 4 (ts.map ef.v),p.v]) rfl ?_
 · obtain⟨res,h1,r,b,rfl⟩:=key
   exact⟨r,b,h1⟩
 have sG:Ev E 199 [p.v] ⟨.agg [vi p.x,vi p.y,vi 1],[]⟩:=m7 p.x p.y
 have Xn:=ht.1
 (conv=>whnf);repeat' ((first| intro g| refine ag.mk _ (sG) ?_| refine ag.mk _ (sE _ _ _) ?_| refine st ?_| (first| refine b1 ?_ ?_| refine b2 ?_ ?_| refine Br.mk ?_ ?_) <;>intro hc| exact rfl) <;>conv=>whnf)
 · exact⟨_,_,rfl⟩
 refine ba.by (fun (k:Nat)=> ⟨[(0,.lit 4 (ts.map ef.v)),(3,.ptr 64 g 0 0),(6,aT k)],[(64,⟨g,2,false,false,some [p.v]⟩)]⟩)
   (fun k=>k≤ts.length) (fun k=>ts.length - k) 0 (by(refine⟨?_,?_⟩ <;>repeat' (first| exact True.intro| refine ai ?_| refine And.intro ?_ ?_))) (by first| omega| (dsimp only;omega)) ?_
 intro k hk
 by_cases bA:k<ts.length
 · obtain⟨t,he⟩: ∃t,ts[k]? =some t:=⟨_,aJ bA⟩
   have Ys:=ht.2 t (List.mem_of_getElem? he)
   (conv=>whnf);repeat' ((first| intro g| refine st ?_| (first| refine b1 ?_ ?_| refine b2 ?_ ?_| refine Br.mk ?_ ?_) <;>intro hc| exact rfl) <;>conv=>whnf)
   refine ba.by (fun (i:Nat)=> ⟨[(0,.lit 4 (ts.map ef.v)),(3,.ptr 64 g 0 0),(6,aT k),(7,aT i)],[(64,⟨g,2,false,false,some [p.v]⟩)]⟩)
     (fun i=>i≤t.ll.length) (fun i=>t.ll.length - i) 0 (by(refine⟨?_,?_⟩ <;>repeat' (first| exact True.intro| refine ai ?_| refine And.intro ?_ ?_))) (by first| omega| (dsimp only;omega)) ?_
   intro i hi
   by_cases gS:i<t.ll.length
   · obtain⟨s,hs⟩: ∃s,t.ll[i]? =some s:=⟨_,aJ gS⟩
     have hb:Ev E 198 [s.v] ⟨.bool (wK s.x s.y s.z),[]⟩:=sE s.x s.y s.z
     (conv=>whnf);repeat' ((first| intro g| refine aL.mk _ (au he rfl) ?_| refine aL.mk _ (au hs rfl) ?_| refine ag.mk _ (hb) ?_| refine st ?_| (first| refine b1 ?_ ?_| refine b2 ?_ ?_| refine Br.mk ?_ ?_) <;>intro hc| exact rfl) <;>conv=>whnf)
     · exact⟨_,_,rfl⟩
     · exact bI.mk (i+1) (by first| omega| (dsimp only;omega)) (by first| omega| (dsimp only;omega)) (by(refine⟨?_,?_⟩ <;>repeat' (first| exact True.intro| refine ai ?_| refine And.intro ?_ ?_)))
   · (conv=>whnf);repeat' ((first| intro g| refine aL.mk _ (au he rfl) ?_| refine st ?_| (first| refine b1 ?_ ?_| refine b2 ?_ ?_| refine Br.mk ?_ ?_) <;>intro hc| exact rfl) <;>conv=>whnf)
     exact bI.mk (k+1) (by first| omega| (dsimp only;omega)) (by first| omega| (dsimp only;omega)) (by(refine⟨?_,?_⟩ <;>repeat' (first| exact True.intro| refine ai ?_| refine And.intro ?_ ?_)))
 · (conv =>whnf);repeat' ((first| intro g| refine st ?_| (first| refine b1 ?_ ?_| refine b2 ?_ ?_| refine Br.mk ?_ ?_) <;>intro hc| exact rfl) <;>conv=>whnf)
   rename_i g3
   refine ba.by (fun ((k,found,a1,a2,a3,a4,a5,a6,a7):Nat×Bool×Int×Int×Int×Int×Int×Int×Int)=> ⟨[(0,.lit 4 (ts.map ef.v)),(3,.ptr 64 g3 0 0),(8,.bool found),(9,.ptr 160 g 0 0),(10,aT k)],[(64,⟨g3,2,false,false,some [p.v]⟩),(160,⟨g,7,false,false,some [.agg [vi a1,vi a2,vi a3,vi a4,vi a5,vi a6,vi a7]]⟩)]⟩)
     (fun (k,_)=>k≤ts.length) (fun (k,_)=>ts.length - k) (0,false,0,0,0,0,0,0,0) (by(refine⟨?_,?_⟩ <;>repeat' (first| exact True.intro| refine ai ?_| refine And.intro ?_ ?_))) (by first| omega| (dsimp only;omega)) ?_
   rintro⟨k,found,a1,a2,a3,a4,a5,a6,a7⟩ hk
   try dsimp only at hk
   by_cases bA:k<ts.length
   · obtain⟨t,he⟩: ∃t,ts[k]? =some t:=⟨_,aJ bA⟩
     have Ys:=ht.2 t (List.mem_of_getElem? he)
     (conv=>whnf);repeat' ((first| intro g| refine st ?_| (first| refine b1 ?_ ?_| refine b2 ?_ ?_| refine Br.mk ?_ ?_) <;>intro hc| exact rfl) <;>conv=>whnf)
     refine ba.by (fun ((j,found,a1,a2,a3,a4,a5,a6,a7):Nat×Bool×Int×Int×Int×Int×Int×Int×Int)=> ⟨[(0,.lit 4 (ts.map ef.v)),(3,.ptr 64 g3 0 0),(8,.bool found),(9,.ptr 160 g 0 0),(10,aT k),(11,aT j)],[(64,⟨g3,2,false,false,some [p.v]⟩),(160,⟨g,7,false,false,some [.agg [vi a1,vi a2,vi a3,vi a4,vi a5,vi a6,vi a7]]⟩)]⟩)
       (fun (j,_)=>j≤t.ll.length) (fun (j,_)=>t.ll.length - j) (0,found,a1,a2,a3,a4,a5,a6,a7) (by(refine⟨?_,?_⟩ <;>repeat' (first| exact True.intro| refine ai ?_| refine And.intro ?_ ?_))) (by first| omega| (dsimp only;omega)) ?_
     rintro⟨j,found,a1,a2,a3,a4,a5,a6,a7⟩ hj
     try dsimp only at hj
     have e1:IntKind.i64.wrap ((j:Int)+1)=((j+1:Nat):Int):=(wrap64 (by omega) (by omega)).trans (by omega)
     by_cases Yt:j+1 <t.ll.length
     · obtain⟨x,hx⟩: ∃s,t.ll[j]? =some s:=⟨_,aJ (by omega)⟩
       obtain⟨y,hy⟩: ∃s,t.ll[j+1]? =some s:=⟨_,aJ Yt⟩
       have Xo:Ev E 200 [x.v,y.v,p.v] ⟨.bool (Xk x.x x.y x.z y.x y.y y.z p.x p.y),[]⟩:=Qj _ _ _ _ _ _ _ _
       have Ql:Ev E 201 [x.v,y.v,p.v] ⟨vi (wM x.x x.y x.z y.x y.y y.z p.x p.y),[]⟩:=yF _ _ _ _ _ _ _ _
       cases found
       · (conv=>whnf);repeat' ((first| intro g| refine aL.mk _ (au he rfl) ?_| refine aL.mk _ (au hx rfl) ?_| refine aL.mk _ (au hy e1) ?_| refine ag.mk _ (Xo) ?_| refine ag.mk _ (Ql) ?_| refine ag.mk _ (uI _ _ _ _ _ _ _ _ _ _ _ _ _ _) ?_| refine st ?_| (first| refine b1 ?_ ?_| refine b2 ?_ ?_| refine Br.mk ?_ ?_) <;>intro hc| exact rfl) <;>conv=>whnf)
         · exact⟨_,_,rfl⟩
         · exact bI.mk (j+1,true,y.x,y.y,y.z,x.x,x.y,x.z,t.left) (by first| omega| (dsimp only;omega)) (by first| omega| (dsimp only;omega)) (by(refine⟨?_,?_⟩ <;>repeat' (first| exact True.intro| refine ai ?_| refine And.intro ?_ ?_)))
         · exact bI.mk (j+1,true,x.x,x.y,x.z,y.x,y.y,y.z,t.right) (by first| omega| (dsimp only;omega)) (by first| omega| (dsimp only;omega)) (by(refine⟨?_,?_⟩ <;>repeat' (first| exact True.intro| refine ai ?_| refine And.intro ?_ ?_)))
         · exact bI.mk (j+1,false,a1,a2,a3,a4,a5,a6,a7) (by first| omega| (dsimp only;omega)) (by first| omega| (dsimp only;omega)) (by(refine⟨?_,?_⟩ <;>repeat' (first| exact True.intro| refine ai ?_| refine And.intro ?_ ?_)))
       · (conv=>whnf);repeat' ((first| intro g| refine aL.mk _ (au he rfl) ?_| refine aL.mk _ (au hx rfl) ?_| refine aL.mk _ (au hy e1) ?_| refine ag.mk _ (Xo) ?_| refine ag.mk _ (Ql) ?_| refine ag.mk _ (uI _ _ _ _ _ _ _ _ _ _ _ _ _ _) ?_| refine st ?_| (first| refine b1 ?_ ?_| refine b2 ?_ ?_| refine Br.mk ?_ ?_) <;>intro hc| exact rfl) <;>conv=>whnf)
         · exact⟨_,_,rfl⟩
         · exact bI.mk (j+1,true,y.x,y.y,y.z,x.x,x.y,x.z,t.left) (by first| omega| (dsimp only;omega)) (by first| omega| (dsimp only;omega)) (by(refine⟨?_,?_⟩ <;>repeat' (first| exact True.intro| refine ai ?_| refine And.intro ?_ ?_)))
         · exact bI.mk (j+1,true,a1,a2,a3,a4,a5,a6,a7) (by first| omega| (dsimp only;omega)) (by first| omega| (dsimp only;omega)) (by(refine⟨?_,?_⟩ <;>repeat' (first| exact True.intro| refine ai ?_| refine And.intro ?_ ?_)))
         · exact bI.mk (j+1,true,x.x,x.y,x.z,y.x,y.y,y.z,t.right) (by first| omega| (dsimp only;omega)) (by first| omega| (dsimp only;omega)) (by(refine⟨?_,?_⟩ <;>repeat' (first| exact True.intro| refine ai ?_| refine And.intro ?_ ?_)))
         · exact bI.mk (j+1,true,a1,a2,a3,a4,a5,a6,a7) (by first| omega| (dsimp only;omega)) (by first| omega| (dsimp only;omega)) (by(refine⟨?_,?_⟩ <;>repeat' (first| exact True.intro| refine ai ?_| refine And.intro ?_ ?_)))
         · exact bI.mk (j+1,true,a1,a2,a3,a4,a5,a6,a7) (by first| omega| (dsimp only;omega)) (by first| omega| (dsimp only;omega)) (by(refine⟨?_,?_⟩ <;>repeat' (first| exact True.intro| refine ai ?_| refine And.intro ?_ ?_)))
     · (conv=>whnf);repeat' ((first| intro g| refine aL.mk _ (au he rfl) ?_| refine st ?_| (first| refine b1 ?_ ?_| refine b2 ?_ ?_| refine Br.mk ?_ ?_) <;>intro hc| exact rfl) <;>conv=>whnf)
       exact bI.mk (k+1,found,a1,a2,a3,a4,a5,a6,a7) (by first| omega| (dsimp only;omega)) (by first| omega| (dsimp only;omega)) (by(refine⟨?_,?_⟩ <;>repeat' (first| exact True.intro| refine ai ?_| refine And.intro ?_ ?_)))
   · (conv=>whnf);repeat' ((first| intro g| refine st ?_| (first| refine b1 ?_ ?_| refine b2 ?_ ?_| refine Br.mk ?_ ?_) <;>intro hc| exact rfl) <;>conv=>whnf)
     exact⟨_,_,rfl⟩
end Go.AM
set_option maxRecDepth 20000
namespace Go.AM
set_option maxHeartbeats 4000000 in
theorem KJ {es:List Edge} {n:Nat} (he:gz es n) (hn:n< 1000) (p:Pt): ∃ (r:Int) (b:Bool),Ev E 121 [.lit 4 (es.map Edge.v),p.v] ⟨.tuple [vi r,.bool b],[]⟩:=by
 have key:=Ev.cQ (R:=fun res=> ∃ (r:Int) (b:Bool),res=⟨.tuple [vi r,.bool b],[]⟩) Pj (Pk [.lit 4 (es.map Edge.v),p.v]) rfl ?_
 · obtain⟨res,h1,r,b,rfl⟩:=key
   exact⟨r,b,h1⟩
 (conv=>whnf);repeat' ((first| intro g| refine st ?_| (first| refine b1 ?_ ?_| refine b2 ?_ ?_| refine Br.mk ?_ ?_) <;>intro hc| exact rfl) <;>conv=>whnf)
 refine ag.ex (A0 he hn) ?_
 rintro _ ⟨ts,ht,rfl⟩
 obtain⟨r,b,hr⟩:=vF ht p
 (conv=>whnf);repeat' ((first| intro g| refine ag.mk _ (hr) ?_| refine st ?_| (first| refine b1 ?_ ?_| refine b2 ?_ ?_| refine Br.mk ?_ ?_) <;>intro hc| exact rfl) <;>conv=>whnf)
 exact⟨_,_,rfl⟩
set_option maxHeartbeats 4000000 in
theorem pb (m:br) (hf:m.bp.length< 1000) (id:Int): ∃r:Int,Ev E 122 [m.v,vi id] ⟨vi r,[]⟩:=by
 have key:=Ev.cQ (R:=fun res=> ∃r:Int,res=⟨vi r,[]⟩) Pl (Pm [m.v,vi id]) rfl ?_
 · obtain⟨res,h1,r,rfl⟩:=key
   exact⟨r,h1⟩
 (conv=>whnf);repeat' ((first| intro g| refine st ?_| (first| refine b1 ?_ ?_| refine b2 ?_ ?_| refine Br.mk ?_ ?_) <;>intro hc| exact rfl) <;>conv=>whnf)
 refine ba.by (fun (k:Nat)=> ⟨[(1,vi id),(2,.ptr 48 g 0 0),(5,aT k)],[(48,⟨g,4,false,false,some [m.v]⟩)]⟩)
   (fun k=>k≤m.bp.length) (fun k=>m.bp.length - k) 0 (by(refine⟨?_,?_⟩ <;>repeat' (first| exact True.intro| refine ai ?_| refine And.intro ?_ ?_))) (by first| omega| (dsimp only;omega)) ?_
 intro k hk
 by_cases bA:k<m.bp.length
 · obtain⟨f,hx⟩: ∃f,m.bp[k]? =some f:=⟨_,aJ bA⟩
   (conv=>whnf);repeat' ((first| intro g| refine aL.mk _ (au hx rfl) ?_| refine st ?_| (first| refine b1 ?_ ?_| refine b2 ?_ ?_| refine Br.mk ?_ ?_) <;>intro hc| exact rfl) <;>conv=>whnf)
   · exact⟨_,rfl⟩
   · exact bI.mk (k+1) (by first| omega| (dsimp only;omega)) (by first| omega| (dsimp only;omega)) (by(refine⟨?_,?_⟩ <;>repeat' (first| exact True.intro| refine ai ?_| refine And.intro ?_ ?_)))
 · (conv=>whnf);repeat' ((first| intro g| refine st ?_| (first| refine b1 ?_ ?_| refine b2 ?_ ?_| refine Br.mk ?_ ?_) <;>intro hc| exact rfl) <;>conv=>whnf)
   exact⟨_,rfl⟩
end Go.AM
