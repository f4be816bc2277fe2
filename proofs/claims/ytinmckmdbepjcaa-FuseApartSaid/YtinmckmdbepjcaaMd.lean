/-
  Texts of the proof, joined by program: SFarA, SFarB, SFarC, SFarD. Own work.
-/
import Derived.Test.YtinmckmdbepjcaaData
import Derived.Test.YtinmckmdbepjcaaMa
import Derived.Test.YtinmckmdbepjcaaMb
set_option linter.unusedSimpArgs false
set_option linter.unusedVariables false
set_option maxRecDepth 20000
set_option maxHeartbeats 4000000
namespace Go.AM
theorem yC (x0:Int): ∃r:Int,Ev E 283 [vi x0] ⟨vi r,[]⟩:=by
 have key:=Ev.cQ (R:=fun res=> ∃r:Int,res=⟨vi r,[]⟩) Pd (Pe [vi x0]) rfl ?_
 · obtain⟨res,h1,r,rfl⟩:=key
   exact⟨r,h1⟩
 (conv=>whnf);repeat' ((first| intro g| refine st ?_| (first| refine b1 ?_ ?_| refine b2 ?_ ?_| refine Br.mk ?_ ?_) <;>intro hc| exact rfl) <;>conv=>whnf)
 all_goals exact⟨_,rfl⟩
noncomputable def E9 (x0:Int):Int:=(yC x0).choose
theorem HI (x0:Int):Ev E 283 [vi x0] ⟨vi (E9 x0),[]⟩:=(yC x0).choose_spec
theorem yD (x0:Int): ∃r:Int,Ev E 285 [vi x0] ⟨.int .u64 r,[]⟩:=by
 have key:=Ev.cQ (R:=fun res=> ∃r:Int,res=⟨.int .u64 r,[]⟩) Ph (Pj [vi x0]) rfl ?_
 · obtain⟨res,h1,r,rfl⟩:=key
   exact⟨r,h1⟩
 (conv=>whnf);repeat' ((first| intro g| refine st ?_| (first| refine b1 ?_ ?_| refine b2 ?_ ?_| refine Br.mk ?_ ?_) <;>intro hc| exact rfl) <;>conv=>whnf)
 all_goals exact⟨_,rfl⟩
noncomputable def yE (x0:Int):Int:=(yD x0).choose
theorem HJ (x0:Int):Ev E 285 [vi x0] ⟨.int .u64 (yE x0),[]⟩:=(yD x0).choose_spec
theorem so (x0 x1:Int): ∃r:Int×Int,Ev E 284 [.int .u64 x0,.int .u64 x1] ⟨.agg [.int .u64 r.1,.int .u64 r.2],[]⟩:=by
 have key:=Ev.cQ (R:=fun res=> ∃r:Int×Int,res=⟨.agg [.int .u64 r.1,.int .u64 r.2],[]⟩) Pf (Pg [.int .u64 x0,.int .u64 x1]) rfl ?_
 · obtain⟨res,h1,r,rfl⟩:=key
   exact⟨r,h1⟩
 (conv=>whnf);repeat' ((first| intro g| refine st ?_| (first| refine b1 ?_ ?_| refine b2 ?_ ?_| refine Br.mk ?_ ?_) <;>intro hc| exact rfl) <;>conv=>whnf)
 all_goals exact⟨⟨_,_⟩,rfl⟩
noncomputable def qy (x0 x1:Int):Int×Int:=(so x0 x1).choose
theorem AF (x0 x1:Int):Ev E 284 [.int .u64 x0,.int .u64 x1] ⟨.agg [.int .u64 (qy x0 x1).1,.int .u64 (qy x0 x1).2],[]⟩:=(so x0 x1).choose_spec
theorem sq (x0 x1 x2:Int): ∃r:Bool,Ev E 282 [vi x0,vi x1,vi x2] ⟨.bool r,[]⟩:=by
 have key:=Ev.cQ (R:=fun res=> ∃r:Bool,res=⟨.bool r,[]⟩) Pb (Pc [vi x0,vi x1,vi x2]) rfl ?_
 · obtain⟨res,h1,r,rfl⟩:=key
   exact⟨r,h1⟩
 (conv=>whnf);repeat' ((first| intro g| refine st ?_| (first| refine b1 ?_ ?_| refine b2 ?_ ?_| refine Br.mk ?_ ?_) <;>intro hc| exact rfl) <;>conv=>whnf)
 all_goals exact⟨_,rfl⟩
noncomputable def Fa (x0 x1 x2:Int):Bool:=(sq x0 x1 x2).choose
theorem AG (x0 x1 x2:Int):Ev E 282 [vi x0,vi x1,vi x2] ⟨.bool (Fa x0 x1 x2),[]⟩:=(sq x0 x1 x2).choose_spec
theorem BL (x0 x1 x2:Int): ∃r:Bool,Ev E 270 [.agg [vi x0,vi x1,vi x2]] ⟨.bool r,[]⟩:=by
 have key:=Ev.cQ (R:=fun res=> ∃r:Bool,res=⟨.bool r,[]⟩) O7 (O8 [.agg [vi x0,vi x1,vi x2]]) rfl ?_
 · obtain⟨res,h1,r,rfl⟩:=key
   exact⟨r,h1⟩
 (conv=>whnf);repeat' ((first| intro g| refine ag.mk _ (AG _ _ _) ?_| refine st ?_| (first| refine b1 ?_ ?_| refine b2 ?_ ?_| refine Br.mk ?_ ?_) <;>intro hc| exact rfl) <;>conv=>whnf)
 all_goals exact⟨_,rfl⟩
noncomputable def S9 (x0 x1 x2:Int):Bool:=(BL x0 x1 x2).choose
theorem LD (x0 x1 x2:Int):Ev E 270 [.agg [vi x0,vi x1,vi x2]] ⟨.bool (S9 x0 x1 x2),[]⟩:=(BL x0 x1 x2).choose_spec
theorem su (x0 x1 x2:Int): ∃r:Bool,Ev E 198 [.agg [vi x0,vi x1,vi x2]] ⟨.bool r,[]⟩:=by
 have key:=Ev.cQ (R:=fun res=> ∃r:Bool,res=⟨.bool r,[]⟩) OM (ON [.agg [vi x0,vi x1,vi x2]]) rfl ?_
 · obtain⟨res,h1,r,rfl⟩:=key
   exact⟨r,h1⟩
 (conv=>whnf);repeat' ((first| intro g| refine st ?_| (first| refine b1 ?_ ?_| refine b2 ?_ ?_| refine Br.mk ?_ ?_) <;>intro hc| exact rfl) <;>conv=>whnf)
 all_goals exact⟨_,rfl⟩
noncomputable def yF (x0 x1 x2:Int):Bool:=(su x0 x1 x2).choose
theorem um (x0 x1 x2:Int):Ev E 198 [.agg [vi x0,vi x1,vi x2]] ⟨.bool (yF x0 x1 x2),[]⟩:=(su x0 x1 x2).choose_spec
theorem oa (x y:Int):Ev E 199 [.agg [vi x,vi y]] ⟨.agg [vi x,vi y,vi 1],[]⟩:=by
 refine Ev.bU OO (OP _) rfl ?_
 (conv=>whnf);repeat' ((first| intro g| refine st ?_| (first| refine b1 ?_ ?_| refine b2 ?_ ?_| refine Br.mk ?_ ?_) <;>intro hc| exact rfl) <;>conv=>whnf)
theorem wc (x0 x1 x2 x3:Int): ∃r:Int,Ev E 271 [vi x0,vi x1,vi x2,vi x3] ⟨vi r,[]⟩:=by
 have key:=Ev.cQ (R:=fun res=> ∃r:Int,res=⟨vi r,[]⟩) O9 (Pa [vi x0,vi x1,vi x2,vi x3]) rfl ?_
 · obtain⟨res,h1,r,rfl⟩:=key
   exact⟨r,h1⟩
 (conv=>whnf);repeat' ((first| intro g| refine ag.mk _ (HI _) ?_| refine ag.mk _ (HJ _) ?_| refine ag.mk _ (AF _ _) ?_| refine st ?_| (first| refine b1 ?_ ?_| refine b2 ?_ ?_| refine Br.mk ?_ ?_) <;>intro hc| exact rfl) <;>conv=>whnf)
 · exact⟨_,rfl⟩
 rename_i dK
 generalize hu:qy (yE x0) (yE x1)=u
 generalize hv:qy (yE x2) (yE x3)=v
 obtain⟨u0,u1⟩:=u
 obtain⟨v0,v1⟩:=v
 generalize hs:IntKind.i64.wrap (E9 x0*E9 x1)=s
 refine ba.by (fun (k:Nat)=> ⟨[(9,vi s),(11,.ptr 192 dK 0 0),(12,.ptr 208 g 0 0),(13,aF k)],[(192,⟨dK,2,false,false,some [.agg [.int .u64 u0,.int .u64 u1]]⟩),(208,⟨g,2,false,false,some [.agg [.int .u64 v0,.int .u64 v1]]⟩)]⟩)
   (fun k=>k≤2) (fun k=>2 - k) 0 (by(refine⟨?_,?_⟩ <;>repeat' (first| exact True.intro| refine ai ?_| refine And.intro ?_ ?_))) (by first| omega| (dsimp only;omega)) ?_
 intro k hk
 rcases(by omega:k=0∨k=1∨k=2) with rfl| rfl| rfl
 · (conv=>whnf);repeat' ((first| intro g| refine st ?_| (first| refine b1 ?_ ?_| refine b2 ?_ ?_| refine Br.mk ?_ ?_) <;>intro hc| exact rfl) <;>conv=>whnf)
   all_goals first| exact⟨_,rfl⟩ | exact bc.mk 1 (by first| omega| (dsimp only;omega)) (by first| omega| (dsimp only;omega)) (by(refine⟨?_,?_⟩ <;>repeat' (first| exact True.intro| refine ai ?_| refine And.intro ?_ ?_)))
 · (conv=>whnf);repeat' ((first| intro g| refine st ?_| (first| refine b1 ?_ ?_| refine b2 ?_ ?_| refine Br.mk ?_ ?_) <;>intro hc| exact rfl) <;>conv=>whnf)
   all_goals first| exact⟨_,rfl⟩ | exact bc.mk 2 (by first| omega| (dsimp only;omega)) (by first| omega| (dsimp only;omega)) (by(refine⟨?_,?_⟩ <;>repeat' (first| exact True.intro| refine ai ?_| refine And.intro ?_ ?_)))
 · (conv=>whnf);repeat' ((first| intro g| refine st ?_| (first| refine b1 ?_ ?_| refine b2 ?_ ?_| refine Br.mk ?_ ?_) <;>intro hc| exact rfl) <;>conv=>whnf)
   exact⟨_,rfl⟩
noncomputable def LF (x0 x1 x2 x3:Int):Int:=(wc x0 x1 x2 x3).choose
theorem yG (x0 x1 x2 x3:Int):Ev E 271 [vi x0,vi x1,vi x2,vi x3] ⟨vi (LF x0 x1 x2 x3),[]⟩:=(wc x0 x1 x2 x3).choose_spec
theorem BM (x0 x1 x2 x3:Int): ∃r:Int,Ev E 238 [.agg [vi x0,vi x1],.agg [vi x2,vi x3]] ⟨vi r,[]⟩:=by
 have key:=Ev.cQ (R:=fun res=> ∃r:Int,res=⟨vi r,[]⟩) O5 (O6 [.agg [vi x0,vi x1],.agg [vi x2,vi x3]]) rfl ?_
 · obtain⟨res,h1,r,rfl⟩:=key
   exact⟨r,h1⟩
 (conv=>whnf);repeat' ((first| intro g| refine ag.mk _ (yG _ _ _ _) ?_| refine st ?_| (first| refine b1 ?_ ?_| refine b2 ?_ ?_| refine Br.mk ?_ ?_) <;>intro hc| exact rfl) <;>conv=>whnf)
 all_goals exact⟨_,rfl⟩
noncomputable def Ta (x0 x1 x2 x3:Int):Int:=(BM x0 x1 x2 x3).choose
theorem AH (x0 x1 x2 x3:Int):Ev E 238 [.agg [vi x0,vi x1],.agg [vi x2,vi x3]] ⟨vi (Ta x0 x1 x2 x3),[]⟩:=(BM x0 x1 x2 x3).choose_spec
theorem we (x0 x1 x2 x3 x4:Int): ∃r:Int,Ev E 236 [vi x0,.agg [vi x1,vi x2],.agg [vi x3,vi x4]] ⟨vi r,[]⟩:=by
 have key:=Ev.cQ (R:=fun res=> ∃r:Int,res=⟨vi r,[]⟩) OY (OZ [vi x0,.agg [vi x1,vi x2],.agg [vi x3,vi x4]]) rfl ?_
 · obtain⟨res,h1,r,rfl⟩:=key
   exact⟨r,h1⟩
 (conv=>whnf);repeat' ((first| intro g| refine ag.mk _ (AH _ _ _ _) ?_| refine st ?_| (first| refine b1 ?_ ?_| refine b2 ?_ ?_| refine Br.mk ?_ ?_) <;>intro hc| exact rfl) <;>conv=>whnf)
 all_goals exact⟨_,rfl⟩
noncomputable def LG (x0 x1 x2 x3 x4:Int):Int:=(we x0 x1 x2 x3 x4).choose
theorem Fb (x0 x1 x2 x3 x4:Int):Ev E 236 [vi x0,.agg [vi x1,vi x2],.agg [vi x3,vi x4]] ⟨vi (LG x0 x1 x2 x3 x4),[]⟩:=(we x0 x1 x2 x3 x4).choose_spec
theorem wg (x0 x1 x2 x3 x4:Int): ∃r:Bool,Ev E 237 [.agg [vi x0,vi x1,vi x2],.agg [vi x3,vi x4]] ⟨.bool r,[]⟩:=by
 have key:=Ev.cQ (R:=fun res=> ∃r:Bool,res=⟨.bool r,[]⟩) O3 (O4 [.agg [vi x0,vi x1,vi x2],.agg [vi x3,vi x4]]) rfl ?_
 · obtain⟨res,h1,r,rfl⟩:=key
   exact⟨r,h1⟩
 (conv=>whnf);repeat' ((first| intro g| refine ag.mk _ (AH _ _ _ _) ?_| refine st ?_| (first| refine b1 ?_ ?_| refine b2 ?_ ?_| refine Br.mk ?_ ?_) <;>intro hc| exact rfl) <;>conv=>whnf)
 all_goals exact⟨_,rfl⟩
noncomputable def LH (x0 x1 x2 x3 x4:Int):Bool:=(wg x0 x1 x2 x3 x4).choose
theorem Fc (x0 x1 x2 x3 x4:Int):Ev E 237 [.agg [vi x0,vi x1,vi x2],.agg [vi x3,vi x4]] ⟨.bool (LH x0 x1 x2 x3 x4),[]⟩:=(wg x0 x1 x2 x3 x4).choose_spec
theorem qz (x0 x1 x2 x3 x4 x5 x6 x7 x8:Int): ∃r:Int,Ev E 235 [.agg [vi x0,vi x1,vi x2],.agg [vi x3,vi x4,vi x5],.agg [vi x6,vi x7,vi x8]] ⟨vi r,[]⟩:=by
 have key:=Ev.cQ (R:=fun res=> ∃r:Int,res=⟨vi r,[]⟩) OW (OX [.agg [vi x0,vi x1,vi x2],.agg [vi x3,vi x4,vi x5],.agg [vi x6,vi x7,vi x8]]) rfl ?_
 · obtain⟨res,h1,r,rfl⟩:=key
   exact⟨r,h1⟩
 (conv=>whnf);repeat' ((first| intro g| refine ag.mk _ (LD _ _ _) ?_| refine ag.mk _ (yG _ _ _ _) ?_| refine st ?_| (first| refine b1 ?_ ?_| refine b2 ?_ ?_| refine Br.mk ?_ ?_) <;>intro hc| exact rfl) <;>conv=>whnf)
 all_goals exact⟨_,rfl⟩
noncomputable def Db (x0 x1 x2 x3 x4 x5 x6 x7 x8:Int):Int:=(qz x0 x1 x2 x3 x4 x5 x6 x7 x8).choose
theorem m9 (x0 x1 x2 x3 x4 x5 x6 x7 x8:Int):Ev E 235 [.agg [vi x0,vi x1,vi x2],.agg [vi x3,vi x4,vi x5],.agg [vi x6,vi x7,vi x8]] ⟨vi (Db x0 x1 x2 x3 x4 x5 x6 x7 x8),[]⟩:=(qz x0 x1 x2 x3 x4 x5 x6 x7 x8).choose_spec
theorem Fe (x0 x1 x2 x3 x4 x5 x6 x7:Int): ∃r:Bool,Ev E 200 [.agg [vi x0,vi x1,vi x2],.agg [vi x3,vi x4,vi x5],.agg [vi x6,vi x7]] ⟨.bool r,[]⟩:=by
 have key:=Ev.cQ (R:=fun res=> ∃r:Bool,res=⟨.bool r,[]⟩) OQ (OR [.agg [vi x0,vi x1,vi x2],.agg [vi x3,vi x4,vi x5],.agg [vi x6,vi x7]]) rfl ?_
 · obtain⟨res,h1,r,rfl⟩:=key
   exact⟨r,h1⟩
 (conv=>whnf);repeat' ((first| intro g| refine ag.mk _ (oa _ _) ?_| refine ag.mk _ (m9 _ _ _ _ _ _ _ _ _) ?_| refine ag.mk _ (Fb _ _ _ _ _) ?_| refine st ?_| (first| refine b1 ?_ ?_| refine b2 ?_ ?_| refine Br.mk ?_ ?_) <;>intro hc| exact rfl) <;>conv=>whnf)
 all_goals exact⟨_,rfl⟩
noncomputable def U0 (x0 x1 x2 x3 x4 x5 x6 x7:Int):Bool:=(Fe x0 x1 x2 x3 x4 x5 x6 x7).choose
theorem PG (x0 x1 x2 x3 x4 x5 x6 x7:Int):Ev E 200 [.agg [vi x0,vi x1,vi x2],.agg [vi x3,vi x4,vi x5],.agg [vi x6,vi x7]] ⟨.bool (U0 x0 x1 x2 x3 x4 x5 x6 x7),[]⟩:=(Fe x0 x1 x2 x3 x4 x5 x6 x7).choose_spec
theorem sw (x0 x1 x2 x3 x4 x5 x6 x7:Int): ∃r:Int,Ev E 201 [.agg [vi x0,vi x1,vi x2],.agg [vi x3,vi x4,vi x5],.agg [vi x6,vi x7]] ⟨vi r,[]⟩:=by
 have key:=Ev.cQ (R:=fun res=> ∃r:Int,res=⟨vi r,[]⟩) OS (OT [.agg [vi x0,vi x1,vi x2],.agg [vi x3,vi x4,vi x5],.agg [vi x6,vi x7]]) rfl ?_
 · obtain⟨res,h1,r,rfl⟩:=key
   exact⟨r,h1⟩
 (conv=>whnf);repeat' ((first| intro g| refine ag.mk _ (oa _ _) ?_| refine ag.mk _ (Fc _ _ _ _ _) ?_| refine ag.mk _ (m9 _ _ _ _ _ _ _ _ _) ?_| refine st ?_| (first| refine b1 ?_ ?_| refine b2 ?_ ?_| refine Br.mk ?_ ?_) <;>intro hc| exact rfl) <;>conv=>whnf)
 all_goals exact⟨_,rfl⟩
noncomputable def yH (x0 x1 x2 x3 x4 x5 x6 x7:Int):Int:=(sw x0 x1 x2 x3 x4 x5 x6 x7).choose
theorem AI (x0 x1 x2 x3 x4 x5 x6 x7:Int):Ev E 201 [.agg [vi x0,vi x1,vi x2],.agg [vi x3,vi x4,vi x5],.agg [vi x6,vi x7]] ⟨vi (yH x0 x1 x2 x3 x4 x5 x6 x7),[]⟩:=(sw x0 x1 x2 x3 x4 x5 x6 x7).choose_spec
theorem uo (x0 x1 x2 x3 x4 x5 x6 x7 x8 x9 IL IM IN IP:Int): ∃r:Bool,Ev E 202 [.agg [vi x0,vi x1,vi x2,vi x3,vi x4,vi x5,vi x6],.agg [vi x7,vi x8,vi x9,vi IL,vi IM,vi IN,vi IP]] ⟨.bool r,[]⟩:=by
 have key:=Ev.cQ (R:=fun res=> ∃r:Bool,res=⟨.bool r,[]⟩) OU (OV [.agg [vi x0,vi x1,vi x2,vi x3,vi x4,vi x5,vi x6],.agg [vi x7,vi x8,vi x9,vi IL,vi IM,vi IN,vi IP]]) rfl ?_
 · obtain⟨res,h1,r,rfl⟩:=key
   exact⟨r,h1⟩
 (conv=>whnf);repeat' ((first| intro g| refine ag.mk _ (AH _ _ _ _) ?_| refine ag.mk _ (m9 _ _ _ _ _ _ _ _ _) ?_| refine st ?_| (first| refine b1 ?_ ?_| refine b2 ?_ ?_| refine Br.mk ?_ ?_) <;>intro hc| exact rfl) <;>conv=>whnf)
 all_goals exact⟨_,rfl⟩
noncomputable def HK (x0 x1 x2 x3 x4 x5 x6 x7 x8 x9 IL IM IN IP:Int):Bool:=(uo x0 x1 x2 x3 x4 x5 x6 x7 x8 x9 IL IM IN IP).choose
theorem wh (x0 x1 x2 x3 x4 x5 x6 x7 x8 x9 IL IM IN IP:Int):Ev E 202 [.agg [vi x0,vi x1,vi x2,vi x3,vi x4,vi x5,vi x6],.agg [vi x7,vi x8,vi x9,vi IL,vi IM,vi IN,vi IP]] ⟨.bool (HK x0 x1 x2 x3 x4 x5 x6 x7 x8 x9 IL IM IN IP),[]⟩:=(uo x0 x1 x2 x3 x4 x5 x6 x7 x8 x9 IL IM IN IP).choose_spec
end Go.AM
set_option maxRecDepth 20000
namespace Go.AM
structure xf where
 x:Int
 y:Int
 z:Int
def xf.v (s:xf):V:= .agg [vi s.x,vi s.y,vi s.z]
structure eF where
 id:Int
 mj:List xf
 left:Int
 right:Int
def eF.v (t:eF):V:= .agg [vi t.id,.lit 3 (t.mj.map xf.v),vi t.left,vi t.right]
theorem xf.cN (l:List xf):V.aq (l.map xf.v)=true:=AM.cN (fun _=>rfl) l
theorem eF.cN (l:List eF):V.aq (l.map eF.v)=true:=AM.cN (fun _=>rfl) l
def PH (ts:List eF):Prop:=ts.length< 1000∧ ∀t ∈ ts,t.mj.length≤5
set_option maxHeartbeats 4000000 in
theorem Dc {es:List Edge} {n:Nat} (he:hG es n) (hn:n< 1000): ∃res,Ev E 164 [.lit 4 (es.map Edge.v)] res∧ ∃ts:List eF,PH ts∧res=⟨.own 4 (ts.map eF.v),[]⟩:=by
 refine Ev.cQ OK (OL _) rfl ?_
 have sm:=he.1
 (conv=>whnf);repeat' ((first| intro g| refine st ?_| (first| refine b1 ?_ ?_| refine b2 ?_ ?_| refine Br.mk ?_ ?_) <;>intro hc| exact rfl) <;>conv=>whnf)
 refine ba.by (fun ((k,ts,g):Nat×List eF×Nat)=> ⟨[(0,.lit 4 (es.map Edge.v)),(3,.sl 65 g 0 ts.length),(4,aF k)],[(65,⟨g,4,true,false,some (ts.map eF.v)⟩)]⟩)
   (fun (k,ts,g)=>k≤es.length∧ts.length=k∧ ∀t ∈ ts,t.mj.length≤5) (fun (k,_)=>es.length - k) (0,[],g) (by(refine⟨?_,?_⟩ <;>repeat' (first| exact True.intro| refine ai ?_| refine And.intro ?_ ?_))) ⟨by simp,by simp,by simp⟩ ?_
 rintro⟨k,ts,g⟩ ⟨hk,ht,Tb⟩
 try dsimp only at hk ht Tb
 by_cases bk:k<es.length
 · obtain⟨e,vd⟩: ∃e,es[k]? =some e:=⟨_,aL bk⟩
   have Pr:=he.2.1 e (List.mem_of_getElem? vd)
   have U1:=Pr.1
   have C9:=Pr.2
   (conv=>whnf);repeat' ((first| intro g| refine aH.mk _ (aC vd rfl) ?_| refine st ?_| (first| refine b1 ?_ ?_| refine b2 ?_ ?_| refine Br.mk ?_ ?_) <;>intro hc| exact rfl) <;>conv=>whnf)
   rename_i g5
   refine ba.by (fun ((i,ss,og):Nat×List xf×Option Nat)=> ⟨[(0,.lit 4 (es.map Edge.v)),(3,.sl 65 g5 0 ts.length),(4,aF k),(5,.ptr 96 g 0 0),(6,aF i)],
     match og with
     | none=> [(65,⟨g5,4,true,false,some (ts.map eF.v)⟩),(96,⟨g,4,false,false,some [.agg [vi e.id,.nils,vi e.left,vi e.right]]⟩)]
     | some g9=> [(65,⟨g5,4,true,false,some (ts.map eF.v)⟩),(96,⟨g,4,false,false,some [.agg [vi e.id,.sl 99 g9 0 ss.length,vi e.left,vi e.right]]⟩),(99,⟨g9,3,true,false,some (ss.map xf.v)⟩)]⟩)
     (fun (i,ss,og)=>i≤e.line.length∧ss.length=i∧(og=none→ss=[])) (fun (i,_)=>e.line.length - i) (0,[],none) ?_ ⟨by simp,by simp,by simp⟩ ?_
   · (refine⟨?_,?_⟩ <;>repeat' (first| exact True.intro| refine ai ?_| refine And.intro ?_ ?_))
   rintro⟨i,ss,og⟩ ⟨hi,hs,gC⟩
   try dsimp only at hi hs gC
   by_cases gS:i<e.line.length
   · obtain⟨x,hx⟩: ∃x,e.line[i]? =some x:=⟨_,aL gS⟩
     have uq:Ev E 199 [x.v] ⟨.agg [vi x.x,vi x.y,vi 1],[]⟩:=oa x.x x.y
     cases og with
     | none=>
       obtain rfl:=gC rfl
       (conv=>whnf);repeat' ((first| intro g| refine aH.mk _ (aC vd rfl) ?_| refine aH.mk _ (aC hx rfl) ?_| refine ag.mk _ (uq) ?_| refine st ?_| (first| refine b1 ?_ ?_| refine b2 ?_ ?_| refine Br.mk ?_ ?_) <;>intro hc| exact rfl) <;>conv=>whnf)
       exact bc.mk (i+1,[⟨x.x,x.y,1⟩],some g) (by first| omega| (dsimp only;omega)) ⟨(by first| omega| (dsimp only;omega)),by simp at hs ⊢;omega,by simp⟩ (by(refine⟨?_,?_⟩ <;>repeat' (first| exact True.intro| refine ai ?_| refine And.intro ?_ ?_)))
     | some g9=>
       (conv=>whnf);repeat' ((first| intro g| refine aH.mk _ (aC vd rfl) ?_| refine aH.mk _ (aC hx rfl) ?_| refine ag.mk _ (uq) ?_| refine st ?_| (first| refine b1 ?_ ?_| refine b2 ?_ ?_| refine Br.mk ?_ ?_) <;>intro hc| exact rfl) <;>conv=>whnf)
       exact bc.mk (i+1,ss++[⟨x.x,x.y,1⟩],some g) (by first| omega| (dsimp only;omega)) ⟨(by first| omega| (dsimp only;omega)),by simp;omega,by simp⟩ (by(refine⟨?_,?_⟩ <;>repeat' (first| exact True.intro| refine ai ?_| refine And.intro ?_ ?_)))
   · cases og with
     | none=>
       obtain rfl:=gC rfl
       simp at hs
       omega
     | some g9=>
       (conv=>whnf);repeat' ((first| intro g| refine aH.mk _ (aC vd rfl) ?_| refine st ?_| (first| refine b1 ?_ ?_| refine b2 ?_ ?_| refine Br.mk ?_ ?_) <;>intro hc| exact rfl) <;>conv=>whnf)
       refine bc.mk (k+1,ts++[⟨e.id,ss,e.left,e.right⟩],g) (by first| omega| (dsimp only;omega)) ⟨(by first| omega| (dsimp only;omega)),by simp;omega,?_⟩ (by(refine⟨?_,?_⟩ <;>repeat' (first| exact True.intro| refine ai ?_| refine And.intro ?_ ?_)))
       intro t h
       rcases List.mem_append.1 h with h| h
       · exact Tb t h
       · have:t=⟨e.id,ss,e.left,e.right⟩:=by simpa using h
         subst this;dsimp only;omega
 · (conv=>whnf);repeat' ((first| intro g| refine st ?_| (first| refine b1 ?_ ?_| refine b2 ?_ ?_| refine Br.mk ?_ ?_) <;>intro hc| exact rfl) <;>conv=>whnf)
   exact⟨ts,⟨by omega,Tb⟩,rfl⟩
end Go.AM
set_option maxRecDepth 20000
namespace Go.AM
set_option maxHeartbeats 4000000 in
theorem xg {ts:List eF} (ht:PH ts) (p:Pt): ∃ (r:Int) (b:Bool),Ev E 163 [.lit 4 (ts.map eF.v),p.v] ⟨.tuple [vi r,.bool b],[]⟩:=by
 have key:=Ev.cQ (R:=fun res=> ∃ (r:Int) (b:Bool),res=⟨.tuple [vi r,.bool b],[]⟩) OI (OJ [.lit 4 (ts.map eF.v),p.v]) rfl ?_
 · obtain⟨res,h1,r,b,rfl⟩:=key
   exact⟨r,b,h1⟩
 have uq:Ev E 199 [p.v] ⟨.agg [vi p.x,vi p.y,vi 1],[]⟩:=oa p.x p.y
 have LI:=ht.1
 (conv=>whnf);repeat' ((first| intro g| refine ag.mk _ (uq) ?_| refine ag.mk _ (um _ _ _) ?_| refine st ?_| (first| refine b1 ?_ ?_| refine b2 ?_ ?_| refine Br.mk ?_ ?_) <;>intro hc| exact rfl) <;>conv=>whnf)
 · exact⟨_,_,rfl⟩
 refine ba.by (fun (k:Nat)=> ⟨[(0,.lit 4 (ts.map eF.v)),(3,.ptr 64 g 0 0),(6,aF k)],[(64,⟨g,2,false,false,some [p.v]⟩)]⟩)
   (fun k=>k≤ts.length) (fun k=>ts.length - k) 0 (by(refine⟨?_,?_⟩ <;>repeat' (first| exact True.intro| refine ai ?_| refine And.intro ?_ ?_))) (by first| omega| (dsimp only;omega)) ?_
 intro k hk
 by_cases bk:k<ts.length
 · obtain⟨t,he⟩: ∃t,ts[k]? =some t:=⟨_,aL bk⟩
   have Wk:=ht.2 t (List.mem_of_getElem? he)
   (conv=>whnf);repeat' ((first| intro g| refine st ?_| (first| refine b1 ?_ ?_| refine b2 ?_ ?_| refine Br.mk ?_ ?_) <;>intro hc| exact rfl) <;>conv=>whnf)
   refine ba.by (fun (i:Nat)=> ⟨[(0,.lit 4 (ts.map eF.v)),(3,.ptr 64 g 0 0),(6,aF k),(7,aF i)],[(64,⟨g,2,false,false,some [p.v]⟩)]⟩)
     (fun i=>i≤t.mj.length) (fun i=>t.mj.length - i) 0 (by(refine⟨?_,?_⟩ <;>repeat' (first| exact True.intro| refine ai ?_| refine And.intro ?_ ?_))) (by first| omega| (dsimp only;omega)) ?_
   intro i hi
   by_cases gS:i<t.mj.length
   · obtain⟨s,hs⟩: ∃s,t.mj[i]? =some s:=⟨_,aL gS⟩
     have hb:Ev E 198 [s.v] ⟨.bool (yF s.x s.y s.z),[]⟩:=um s.x s.y s.z
     (conv=>whnf);repeat' ((first| intro g| refine aH.mk _ (aC he rfl) ?_| refine aH.mk _ (aC hs rfl) ?_| refine ag.mk _ (hb) ?_| refine st ?_| (first| refine b1 ?_ ?_| refine b2 ?_ ?_| refine Br.mk ?_ ?_) <;>intro hc| exact rfl) <;>conv=>whnf)
     · exact⟨_,_,rfl⟩
     · exact bc.mk (i+1) (by first| omega| (dsimp only;omega)) (by first| omega| (dsimp only;omega)) (by(refine⟨?_,?_⟩ <;>repeat' (first| exact True.intro| refine ai ?_| refine And.intro ?_ ?_)))
   · (conv=>whnf);repeat' ((first| intro g| refine aH.mk _ (aC he rfl) ?_| refine st ?_| (first| refine b1 ?_ ?_| refine b2 ?_ ?_| refine Br.mk ?_ ?_) <;>intro hc| exact rfl) <;>conv=>whnf)
     exact bc.mk (k+1) (by first| omega| (dsimp only;omega)) (by first| omega| (dsimp only;omega)) (by(refine⟨?_,?_⟩ <;>repeat' (first| exact True.intro| refine ai ?_| refine And.intro ?_ ?_)))
 · (conv =>whnf);repeat' ((first| intro g| refine st ?_| (first| refine b1 ?_ ?_| refine b2 ?_ ?_| refine Br.mk ?_ ?_) <;>intro hc| exact rfl) <;>conv=>whnf)
   rename_i g3
   refine ba.by (fun ((k,found,a1,a2,a3,a4,a5,a6,a7):Nat×Bool×Int×Int×Int×Int×Int×Int×Int)=> ⟨[(0,.lit 4 (ts.map eF.v)),(3,.ptr 64 g3 0 0),(8,.bool found),(9,.ptr 160 g 0 0),(10,aF k)],[(64,⟨g3,2,false,false,some [p.v]⟩),(160,⟨g,7,false,false,some [.agg [vi a1,vi a2,vi a3,vi a4,vi a5,vi a6,vi a7]]⟩)]⟩)
     (fun (k,_)=>k≤ts.length) (fun (k,_)=>ts.length - k) (0,false,0,0,0,0,0,0,0) (by(refine⟨?_,?_⟩ <;>repeat' (first| exact True.intro| refine ai ?_| refine And.intro ?_ ?_))) (by first| omega| (dsimp only;omega)) ?_
   rintro⟨k,found,a1,a2,a3,a4,a5,a6,a7⟩ hk
   try dsimp only at hk
   by_cases bk:k<ts.length
   · obtain⟨t,he⟩: ∃t,ts[k]? =some t:=⟨_,aL bk⟩
     have Wk:=ht.2 t (List.mem_of_getElem? he)
     (conv=>whnf);repeat' ((first| intro g| refine st ?_| (first| refine b1 ?_ ?_| refine b2 ?_ ?_| refine Br.mk ?_ ?_) <;>intro hc| exact rfl) <;>conv=>whnf)
     refine ba.by (fun ((j,found,a1,a2,a3,a4,a5,a6,a7):Nat×Bool×Int×Int×Int×Int×Int×Int×Int)=> ⟨[(0,.lit 4 (ts.map eF.v)),(3,.ptr 64 g3 0 0),(8,.bool found),(9,.ptr 160 g 0 0),(10,aF k),(11,aF j)],[(64,⟨g3,2,false,false,some [p.v]⟩),(160,⟨g,7,false,false,some [.agg [vi a1,vi a2,vi a3,vi a4,vi a5,vi a6,vi a7]]⟩)]⟩)
       (fun (j,_)=>j≤t.mj.length) (fun (j,_)=>t.mj.length - j) (0,found,a1,a2,a3,a4,a5,a6,a7) (by(refine⟨?_,?_⟩ <;>repeat' (first| exact True.intro| refine ai ?_| refine And.intro ?_ ?_))) (by first| omega| (dsimp only;omega)) ?_
     rintro⟨j,found,a1,a2,a3,a4,a5,a6,a7⟩ hj
     try dsimp only at hj
     have e1:IntKind.i64.wrap ((j:Int)+1)=((j+1:Nat):Int):=(wrap64 (by omega) (by omega)).trans (by omega)
     by_cases Wl:j+1 <t.mj.length
     · obtain⟨x,hx⟩: ∃s,t.mj[j]? =some s:=⟨_,aL (by omega)⟩
       obtain⟨y,hy⟩: ∃s,t.mj[j+1]? =some s:=⟨_,aL Wl⟩
       have U2:Ev E 200 [x.v,y.v,p.v] ⟨.bool (U0 x.x x.y x.z y.x y.y y.z p.x p.y),[]⟩:=PG _ _ _ _ _ _ _ _
       have PI:Ev E 201 [x.v,y.v,p.v] ⟨vi (yH x.x x.y x.z y.x y.y y.z p.x p.y),[]⟩:=AI _ _ _ _ _ _ _ _
       cases found
       · (conv=>whnf);repeat' ((first| intro g| refine aH.mk _ (aC he rfl) ?_| refine aH.mk _ (aC hx rfl) ?_| refine aH.mk _ (aC hy e1) ?_| refine ag.mk _ (U2) ?_| refine ag.mk _ (PI) ?_| refine ag.mk _ (wh _ _ _ _ _ _ _ _ _ _ _ _ _ _) ?_| refine st ?_| (first| refine b1 ?_ ?_| refine b2 ?_ ?_| refine Br.mk ?_ ?_) <;>intro hc| exact rfl) <;>conv=>whnf)
         · exact⟨_,_,rfl⟩
         · exact bc.mk (j+1,true,y.x,y.y,y.z,x.x,x.y,x.z,t.left) (by first| omega| (dsimp only;omega)) (by first| omega| (dsimp only;omega)) (by(refine⟨?_,?_⟩ <;>repeat' (first| exact True.intro| refine ai ?_| refine And.intro ?_ ?_)))
         · exact bc.mk (j+1,true,x.x,x.y,x.z,y.x,y.y,y.z,t.right) (by first| omega| (dsimp only;omega)) (by first| omega| (dsimp only;omega)) (by(refine⟨?_,?_⟩ <;>repeat' (first| exact True.intro| refine ai ?_| refine And.intro ?_ ?_)))
         · exact bc.mk (j+1,false,a1,a2,a3,a4,a5,a6,a7) (by first| omega| (dsimp only;omega)) (by first| omega| (dsimp only;omega)) (by(refine⟨?_,?_⟩ <;>repeat' (first| exact True.intro| refine ai ?_| refine And.intro ?_ ?_)))
       · (conv=>whnf);repeat' ((first| intro g| refine aH.mk _ (aC he rfl) ?_| refine aH.mk _ (aC hx rfl) ?_| refine aH.mk _ (aC hy e1) ?_| refine ag.mk _ (U2) ?_| refine ag.mk _ (PI) ?_| refine ag.mk _ (wh _ _ _ _ _ _ _ _ _ _ _ _ _ _) ?_| refine st ?_| (first| refine b1 ?_ ?_| refine b2 ?_ ?_| refine Br.mk ?_ ?_) <;>intro hc| exact rfl) <;>conv=>whnf)
         · exact⟨_,_,rfl⟩
         · exact bc.mk (j+1,true,y.x,y.y,y.z,x.x,x.y,x.z,t.left) (by first| omega| (dsimp only;omega)) (by first| omega| (dsimp only;omega)) (by(refine⟨?_,?_⟩ <;>repeat' (first| exact True.intro| refine ai ?_| refine And.intro ?_ ?_)))
         · exact bc.mk (j+1,true,a1,a2,a3,a4,a5,a6,a7) (by first| omega| (dsimp only;omega)) (by first| omega| (dsimp only;omega)) (by(refine⟨?_,?_⟩ <;>repeat' (first| exact True.intro| refine ai ?_| refine And.intro ?_ ?_)))
         · exact bc.mk (j+1,true,x.x,x.y,x.z,y.x,y.y,y.z,t.right) (by first| omega| (dsimp only;omega)) (by first| omega| (dsimp only;omega)) (by(refine⟨?_,?_⟩ <;>repeat' (first| exact True.intro| refine ai ?_| refine And.intro ?_ ?_)))
         · exact bc.mk (j+1,true,a1,a2,a3,a4,a5,a6,a7) (by first| omega| (dsimp only;omega)) (by first| omega| (dsimp only;omega)) (by(refine⟨?_,?_⟩ <;>repeat' (first| exact True.intro| refine ai ?_| refine And.intro ?_ ?_)))
         · exact bc.mk (j+1,true,a1,a2,a3,a4,a5,a6,a7) (by first| omega| (dsimp only;omega)) (by first| omega| (dsimp only;omega)) (by(refine⟨?_,?_⟩ <;>repeat' (first| exact True.intro| refine ai ?_| refine And.intro ?_ ?_)))
     · (conv=>whnf);repeat' ((first| intro g| refine aH.mk _ (aC he rfl) ?_| refine st ?_| (first| refine b1 ?_ ?_| refine b2 ?_ ?_| refine Br.mk ?_ ?_) <;>intro hc| exact rfl) <;>conv=>whnf)
       exact bc.mk (k+1,found,a1,a2,a3,a4,a5,a6,a7) (by first| omega| (dsimp only;omega)) (by first| omega| (dsimp only;omega)) (by(refine⟨?_,?_⟩ <;>repeat' (first| exact True.intro| refine ai ?_| refine And.intro ?_ ?_)))
   · (conv=>whnf);repeat' ((first| intro g| refine st ?_| (first| refine b1 ?_ ?_| refine b2 ?_ ?_| refine Br.mk ?_ ?_) <;>intro hc| exact rfl) <;>conv=>whnf)
     exact⟨_,_,rfl⟩
end Go.AM
set_option maxRecDepth 20000
namespace Go.AM
set_option maxHeartbeats 4000000 in
theorem LJ {es:List Edge} {n:Nat} (he:hG es n) (hn:n< 1000) (p:Pt): ∃ (r:Int) (b:Bool),Ev E 121 [.lit 4 (es.map Edge.v),p.v] ⟨.tuple [vi r,.bool b],[]⟩:=by
 have key:=Ev.cQ (R:=fun res=> ∃ (r:Int) (b:Bool),res=⟨.tuple [vi r,.bool b],[]⟩) Oy (Oz [.lit 4 (es.map Edge.v),p.v]) rfl ?_
 · obtain⟨res,h1,r,b,rfl⟩:=key
   exact⟨r,b,h1⟩
 (conv=>whnf);repeat' ((first| intro g| refine st ?_| (first| refine b1 ?_ ?_| refine b2 ?_ ?_| refine Br.mk ?_ ?_) <;>intro hc| exact rfl) <;>conv=>whnf)
 refine ag.ex (Dc he hn) ?_
 rintro _ ⟨ts,ht,rfl⟩
 obtain⟨r,b,hr⟩:=xg ht p
 (conv=>whnf);repeat' ((first| intro g| refine ag.mk _ (hr) ?_| refine st ?_| (first| refine b1 ?_ ?_| refine b2 ?_ ?_| refine Br.mk ?_ ?_) <;>intro hc| exact rfl) <;>conv=>whnf)
 exact⟨_,_,rfl⟩
set_option maxHeartbeats 4000000 in
theorem qA (m:aG) (hf:m.ah.length< 1000) (id:Int): ∃r:Int,(r=0∨ ∃f ∈ m.ah,f.bg=r)∧Ev E 122 [m.v,vi id] ⟨vi r,[]⟩:=by
 have key:=Ev.cQ (R:=fun res=> ∃r:Int,(r=0∨ ∃f ∈ m.ah,f.bg=r)∧res=⟨vi r,[]⟩) OA (OB [m.v,vi id]) rfl ?_
 · obtain⟨res,h1,r,h2,rfl⟩:=key
   exact⟨r,h2,h1⟩
 (conv=>whnf);repeat' ((first| intro g| refine st ?_| (first| refine b1 ?_ ?_| refine b2 ?_ ?_| refine Br.mk ?_ ?_) <;>intro hc| exact rfl) <;>conv=>whnf)
 refine ba.by (fun (k:Nat)=> ⟨[(1,vi id),(2,.ptr 48 g 0 0),(5,aF k)],[(48,⟨g,4,false,false,some [m.v]⟩)]⟩)
   (fun k=>k≤m.ah.length) (fun k=>m.ah.length - k) 0 (by(refine⟨?_,?_⟩ <;>repeat' (first| exact True.intro| refine ai ?_| refine And.intro ?_ ?_))) (by first| omega| (dsimp only;omega)) ?_
 intro k hk
 by_cases bk:k<m.ah.length
 · obtain⟨f,hx⟩: ∃f,m.ah[k]? =some f:=⟨_,aL bk⟩
   (conv=>whnf);repeat' ((first| intro g| refine aH.mk _ (aC hx rfl) ?_| refine st ?_| (first| refine b1 ?_ ?_| refine b2 ?_ ?_| refine Br.mk ?_ ?_) <;>intro hc| exact rfl) <;>conv=>whnf)
   · exact⟨_,.inr ⟨f,List.mem_of_getElem? hx,rfl⟩,rfl⟩
   · exact bc.mk (k+1) (by first| omega| (dsimp only;omega)) (by first| omega| (dsimp only;omega)) (by(refine⟨?_,?_⟩ <;>repeat' (first| exact True.intro| refine ai ?_| refine And.intro ?_ ?_)))
 · (conv=>whnf);repeat' ((first| intro g| refine st ?_| (first| refine b1 ?_ ?_| refine b2 ?_ ?_| refine Br.mk ?_ ?_) <;>intro hc| exact rfl) <;>conv=>whnf)
   exact⟨_,.inl rfl,rfl⟩
end Go.AM
