/-
  Texts of the proof, joined by program: SFarA, SFarB, SFarC, SFarD. Own work.
-/
import Derived.Test.YtkdfnbahehdhmaaGreatData
import Derived.Test.YtkdfnbahehdhmaaGreatMa
import Derived.Test.YtkdfnbahehdhmaaGreatMb
set_option linter.unusedSimpArgs false
set_option linter.unusedVariables false
set_option maxRecDepth 20000
set_option maxHeartbeats 4000000
namespace Go.AM
theorem zo (x0:Int): ∃r:Int,Ev E 283 [vi x0] ⟨vi r,[]⟩:=by
 have key:=Ev.cO (R:=fun res=> ∃r:Int,res=⟨vi r,[]⟩) L5 (L6 [vi x0]) rfl ?_
 · obtain⟨res,h1,r,rfl⟩:=key
   exact⟨r,h1⟩
 (conv=>whnf);repeat' ((first| intro g| refine st ?_| (first| refine b1 ?_ ?_| refine b2 ?_ ?_| refine Br.mk ?_ ?_) <;>intro hc| exact rfl) <;>conv=>whnf)
 all_goals exact⟨_,rfl⟩
noncomputable def GP (x0:Int):Int:=(zo x0).choose
theorem Ki (x0:Int):Ev E 283 [vi x0] ⟨vi (GP x0),[]⟩:=(zo x0).choose_spec
theorem zp (x0:Int): ∃r:Int,Ev E 285 [vi x0] ⟨.int .u64 r,[]⟩:=by
 have key:=Ev.cO (R:=fun res=> ∃r:Int,res=⟨.int .u64 r,[]⟩) L9 (Ma [vi x0]) rfl ?_
 · obtain⟨res,h1,r,rfl⟩:=key
   exact⟨r,h1⟩
 (conv=>whnf);repeat' ((first| intro g| refine st ?_| (first| refine b1 ?_ ?_| refine b2 ?_ ?_| refine Br.mk ?_ ?_) <;>intro hc| exact rfl) <;>conv=>whnf)
 all_goals exact⟨_,rfl⟩
noncomputable def zr (x0:Int):Int:=(zp x0).choose
theorem Kj (x0:Int):Ev E 285 [vi x0] ⟨.int .u64 (zr x0),[]⟩:=(zp x0).choose_spec
theorem sL (x0 x1:Int): ∃r:Int×Int,Ev E 284 [.int .u64 x0,.int .u64 x1] ⟨.agg [.int .u64 r.1,.int .u64 r.2],[]⟩:=by
 have key:=Ev.cO (R:=fun res=> ∃r:Int×Int,res=⟨.agg [.int .u64 r.1,.int .u64 r.2],[]⟩) L7 (L8 [.int .u64 x0,.int .u64 x1]) rfl ?_
 · obtain⟨res,h1,r,rfl⟩:=key
   exact⟨r,h1⟩
 (conv=>whnf);repeat' ((first| intro g| refine st ?_| (first| refine b1 ?_ ?_| refine b2 ?_ ?_| refine Br.mk ?_ ?_) <;>intro hc| exact rfl) <;>conv=>whnf)
 all_goals exact⟨⟨_,_⟩,rfl⟩
noncomputable def qD (x0 x1:Int):Int×Int:=(sL x0 x1).choose
theorem Bw (x0 x1:Int):Ev E 284 [.int .u64 x0,.int .u64 x1] ⟨.agg [.int .u64 (qD x0 x1).1,.int .u64 (qD x0 x1).2],[]⟩:=(sL x0 x1).choose_spec
theorem sN (x0 x1 x2:Int): ∃r:Bool,Ev E 282 [vi x0,vi x1,vi x2] ⟨.bool r,[]⟩:=by
 have key:=Ev.cO (R:=fun res=> ∃r:Bool,res=⟨.bool r,[]⟩) L1 (L2 [vi x0,vi x1,vi x2]) rfl ?_
 · obtain⟨res,h1,r,rfl⟩:=key
   exact⟨r,h1⟩
 (conv=>whnf);repeat' ((first| intro g| refine st ?_| (first| refine b1 ?_ ?_| refine b2 ?_ ?_| refine Br.mk ?_ ?_) <;>intro hc| exact rfl) <;>conv=>whnf)
 all_goals exact⟨_,rfl⟩
noncomputable def GQ (x0 x1 x2:Int):Bool:=(sN x0 x1 x2).choose
theorem By (x0 x1 x2:Int):Ev E 282 [vi x0,vi x1,vi x2] ⟨.bool (GQ x0 x1 x2),[]⟩:=(sN x0 x1 x2).choose_spec
theorem C0 (x0 x1 x2:Int): ∃r:Bool,Ev E 270 [.agg [vi x0,vi x1,vi x2]] ⟨.bool r,[]⟩:=by
 have key:=Ev.cO (R:=fun res=> ∃r:Bool,res=⟨.bool r,[]⟩) WS (WT [.agg [vi x0,vi x1,vi x2]]) rfl ?_
 · obtain⟨res,h1,r,rfl⟩:=key
   exact⟨r,h1⟩
 (conv=>whnf);repeat' ((first| intro g| refine ag.mk _ (By _ _ _) ?_| refine st ?_| (first| refine b1 ?_ ?_| refine b2 ?_ ?_| refine Br.mk ?_ ?_) <;>intro hc| exact rfl) <;>conv=>whnf)
 all_goals exact⟨_,rfl⟩
noncomputable def abp (x0 x1 x2:Int):Bool:=(C0 x0 x1 x2).choose
theorem Rb (x0 x1 x2:Int):Ev E 270 [.agg [vi x0,vi x1,vi x2]] ⟨.bool (abp x0 x1 x2),[]⟩:=(C0 x0 x1 x2).choose_spec
theorem sO (x0 x1 x2:Int): ∃r:Bool,Ev E 198 [.agg [vi x0,vi x1,vi x2]] ⟨.bool r,[]⟩:=by
 have key:=Ev.cO (R:=fun res=> ∃r:Bool,res=⟨.bool r,[]⟩) Wg (Wh [.agg [vi x0,vi x1,vi x2]]) rfl ?_
 · obtain⟨res,h1,r,rfl⟩:=key
   exact⟨r,h1⟩
 (conv=>whnf);repeat' ((first| intro g| refine st ?_| (first| refine b1 ?_ ?_| refine b2 ?_ ?_| refine Br.mk ?_ ?_) <;>intro hc| exact rfl) <;>conv=>whnf)
 all_goals exact⟨_,rfl⟩
noncomputable def zs (x0 x1 x2:Int):Bool:=(sO x0 x1 x2).choose
theorem uN (x0 x1 x2:Int):Ev E 198 [.agg [vi x0,vi x1,vi x2]] ⟨.bool (zs x0 x1 x2),[]⟩:=(sO x0 x1 x2).choose_spec
theorem oi (x y:Int):Ev E 199 [.agg [vi x,vi y]] ⟨.agg [vi x,vi y,vi 1],[]⟩:=by
 refine Ev.aG Wi (Wj _) rfl ?_
 (conv=>whnf);repeat' ((first| intro g| refine st ?_| (first| refine b1 ?_ ?_| refine b2 ?_ ?_| refine Br.mk ?_ ?_) <;>intro hc| exact rfl) <;>conv=>whnf)
theorem wS (x0 x1 x2 x3:Int): ∃r:Int,Ev E 271 [vi x0,vi x1,vi x2,vi x3] ⟨vi r,[]⟩:=by
 have key:=Ev.cO (R:=fun res=> ∃r:Int,res=⟨vi r,[]⟩) GK (GL [vi x0,vi x1,vi x2,vi x3]) rfl ?_
 · obtain⟨res,h1,r,rfl⟩:=key
   exact⟨r,h1⟩
 (conv=>whnf);repeat' ((first| intro g| refine ag.mk _ (Ki _) ?_| refine ag.mk _ (Kj _) ?_| refine ag.mk _ (Bw _ _) ?_| refine st ?_| (first| refine b1 ?_ ?_| refine b2 ?_ ?_| refine Br.mk ?_ ?_) <;>intro hc| exact rfl) <;>conv=>whnf)
 · exact⟨_,rfl⟩
 rename_i Mc
 generalize hu:qD (zr x0) (zr x1)=u
 generalize hv:qD (zr x2) (zr x3)=v
 obtain⟨u0,u1⟩:=u
 obtain⟨v0,v1⟩:=v
 generalize hs:IntKind.i64.wrap (GP x0*GP x1)=s
 refine aV.by (fun (k:Nat)=> ⟨[(9,vi s),(11,.ptr 192 Mc 0 0),(12,.ptr 208 g 0 0),(13,aD k)],[(192,⟨Mc,2,false,false,some [.agg [.int .u64 u0,.int .u64 u1]]⟩),(208,⟨g,2,false,false,some [.agg [.int .u64 v0,.int .u64 v1]]⟩)]⟩)
   (fun k=>k≤2) (fun k=>2 - k) 0 (by(refine⟨?_,?_⟩ <;>repeat' (first| exact True.intro| refine ai ?_| refine And.intro ?_ ?_))) (by first| omega| (dsimp only;omega)) ?_
 intro k hk
 rcases(by omega:k=0∨k=1∨k=2) with rfl| rfl| rfl
 · (conv=>whnf);repeat' ((first| intro g| refine st ?_| (first| refine b1 ?_ ?_| refine b2 ?_ ?_| refine Br.mk ?_ ?_) <;>intro hc| exact rfl) <;>conv=>whnf)
   all_goals first| exact⟨_,rfl⟩ | exact a9.mk 1 (by first| omega| (dsimp only;omega)) (by first| omega| (dsimp only;omega)) (by(refine⟨?_,?_⟩ <;>repeat' (first| exact True.intro| refine ai ?_| refine And.intro ?_ ?_)))
 · (conv=>whnf);repeat' ((first| intro g| refine st ?_| (first| refine b1 ?_ ?_| refine b2 ?_ ?_| refine Br.mk ?_ ?_) <;>intro hc| exact rfl) <;>conv=>whnf)
   all_goals first| exact⟨_,rfl⟩ | exact a9.mk 2 (by first| omega| (dsimp only;omega)) (by first| omega| (dsimp only;omega)) (by(refine⟨?_,?_⟩ <;>repeat' (first| exact True.intro| refine ai ?_| refine And.intro ?_ ?_)))
 · (conv=>whnf);repeat' ((first| intro g| refine st ?_| (first| refine b1 ?_ ?_| refine b2 ?_ ?_| refine Br.mk ?_ ?_) <;>intro hc| exact rfl) <;>conv=>whnf)
   exact⟨_,rfl⟩
noncomputable def Rc (x0 x1 x2 x3:Int):Int:=(wS x0 x1 x2 x3).choose
theorem zt (x0 x1 x2 x3:Int):Ev E 271 [vi x0,vi x1,vi x2,vi x3] ⟨vi (Rc x0 x1 x2 x3),[]⟩:=(wS x0 x1 x2 x3).choose_spec
theorem C1 (x0 x1 x2 x3:Int): ∃r:Int,Ev E 238 [.agg [vi x0,vi x1],.agg [vi x2,vi x3]] ⟨vi r,[]⟩:=by
 have key:=Ev.cO (R:=fun res=> ∃r:Int,res=⟨vi r,[]⟩) WE (WG [.agg [vi x0,vi x1],.agg [vi x2,vi x3]]) rfl ?_
 · obtain⟨res,h1,r,rfl⟩:=key
   exact⟨r,h1⟩
 (conv=>whnf);repeat' ((first| intro g| refine ag.mk _ (zt _ _ _ _) ?_| refine st ?_| (first| refine b1 ?_ ?_| refine b2 ?_ ?_| refine Br.mk ?_ ?_) <;>intro hc| exact rfl) <;>conv=>whnf)
 all_goals exact⟨_,rfl⟩
noncomputable def abq (x0 x1 x2 x3:Int):Int:=(C1 x0 x1 x2 x3).choose
theorem Bz (x0 x1 x2 x3:Int):Ev E 238 [.agg [vi x0,vi x1],.agg [vi x2,vi x3]] ⟨vi (abq x0 x1 x2 x3),[]⟩:=(C1 x0 x1 x2 x3).choose_spec
theorem wT (x0 x1 x2 x3 x4:Int): ∃r:Int,Ev E 236 [vi x0,.agg [vi x1,vi x2],.agg [vi x3,vi x4]] ⟨vi r,[]⟩:=by
 have key:=Ev.cO (R:=fun res=> ∃r:Int,res=⟨vi r,[]⟩) WA (WB [vi x0,.agg [vi x1,vi x2],.agg [vi x3,vi x4]]) rfl ?_
 · obtain⟨res,h1,r,rfl⟩:=key
   exact⟨r,h1⟩
 (conv=>whnf);repeat' ((first| intro g| refine ag.mk _ (Bz _ _ _ _) ?_| refine st ?_| (first| refine b1 ?_ ?_| refine b2 ?_ ?_| refine Br.mk ?_ ?_) <;>intro hc| exact rfl) <;>conv=>whnf)
 all_goals exact⟨_,rfl⟩
noncomputable def Rd (x0 x1 x2 x3 x4:Int):Int:=(wT x0 x1 x2 x3 x4).choose
theorem GR (x0 x1 x2 x3 x4:Int):Ev E 236 [vi x0,.agg [vi x1,vi x2],.agg [vi x3,vi x4]] ⟨vi (Rd x0 x1 x2 x3 x4),[]⟩:=(wT x0 x1 x2 x3 x4).choose_spec
theorem wU (x0 x1 x2 x3 x4:Int): ∃r:Bool,Ev E 237 [.agg [vi x0,vi x1,vi x2],.agg [vi x3,vi x4]] ⟨.bool r,[]⟩:=by
 have key:=Ev.cO (R:=fun res=> ∃r:Bool,res=⟨.bool r,[]⟩) WC (WD [.agg [vi x0,vi x1,vi x2],.agg [vi x3,vi x4]]) rfl ?_
 · obtain⟨res,h1,r,rfl⟩:=key
   exact⟨r,h1⟩
 (conv=>whnf);repeat' ((first| intro g| refine ag.mk _ (Bz _ _ _ _) ?_| refine st ?_| (first| refine b1 ?_ ?_| refine b2 ?_ ?_| refine Br.mk ?_ ?_) <;>intro hc| exact rfl) <;>conv=>whnf)
 all_goals exact⟨_,rfl⟩
noncomputable def Re (x0 x1 x2 x3 x4:Int):Bool:=(wU x0 x1 x2 x3 x4).choose
theorem GS (x0 x1 x2 x3 x4:Int):Ev E 237 [.agg [vi x0,vi x1,vi x2],.agg [vi x3,vi x4]] ⟨.bool (Re x0 x1 x2 x3 x4),[]⟩:=(wU x0 x1 x2 x3 x4).choose_spec
theorem qE (x0 x1 x2 x3 x4 x5 x6 x7 x8:Int): ∃r:Int,Ev E 235 [.agg [vi x0,vi x1,vi x2],.agg [vi x3,vi x4,vi x5],.agg [vi x6,vi x7,vi x8]] ⟨vi r,[]⟩:=by
 have key:=Ev.cO (R:=fun res=> ∃r:Int,res=⟨vi r,[]⟩) Wy (Wz [.agg [vi x0,vi x1,vi x2],.agg [vi x3,vi x4,vi x5],.agg [vi x6,vi x7,vi x8]]) rfl ?_
 · obtain⟨res,h1,r,rfl⟩:=key
   exact⟨r,h1⟩
 (conv=>whnf);repeat' ((first| intro g| refine ag.mk _ (Rb _ _ _) ?_| refine ag.mk _ (zt _ _ _ _) ?_| refine st ?_| (first| refine b1 ?_ ?_| refine b2 ?_ ?_| refine Br.mk ?_ ?_) <;>intro hc| exact rfl) <;>conv=>whnf)
 all_goals exact⟨_,rfl⟩
noncomputable def En (x0 x1 x2 x3 x4 x5 x6 x7 x8:Int):Int:=(qE x0 x1 x2 x3 x4 x5 x6 x7 x8).choose
theorem nj (x0 x1 x2 x3 x4 x5 x6 x7 x8:Int):Ev E 235 [.agg [vi x0,vi x1,vi x2],.agg [vi x3,vi x4,vi x5],.agg [vi x6,vi x7,vi x8]] ⟨vi (En x0 x1 x2 x3 x4 x5 x6 x7 x8),[]⟩:=(qE x0 x1 x2 x3 x4 x5 x6 x7 x8).choose_spec
theorem GU (x0 x1 x2 x3 x4 x5 x6 x7:Int): ∃r:Bool,Ev E 200 [.agg [vi x0,vi x1,vi x2],.agg [vi x3,vi x4,vi x5],.agg [vi x6,vi x7]] ⟨.bool r,[]⟩:=by
 have key:=Ev.cO (R:=fun res=> ∃r:Bool,res=⟨.bool r,[]⟩) Wk (Wl [.agg [vi x0,vi x1,vi x2],.agg [vi x3,vi x4,vi x5],.agg [vi x6,vi x7]]) rfl ?_
 · obtain⟨res,h1,r,rfl⟩:=key
   exact⟨r,h1⟩
 (conv=>whnf);repeat' ((first| intro g| refine ag.mk _ (oi _ _) ?_| refine ag.mk _ (nj _ _ _ _ _ _ _ _ _) ?_| refine ag.mk _ (GR _ _ _ _ _) ?_| refine st ?_| (first| refine b1 ?_ ?_| refine b2 ?_ ?_| refine Br.mk ?_ ?_) <;>intro hc| exact rfl) <;>conv=>whnf)
 all_goals exact⟨_,rfl⟩
noncomputable def onF (x0 x1 x2 x3 x4 x5 x6 x7:Int):Bool:=(GU x0 x1 x2 x3 x4 x5 x6 x7).choose
theorem Xd (x0 x1 x2 x3 x4 x5 x6 x7:Int):Ev E 200 [.agg [vi x0,vi x1,vi x2],.agg [vi x3,vi x4,vi x5],.agg [vi x6,vi x7]] ⟨.bool (onF x0 x1 x2 x3 x4 x5 x6 x7),[]⟩:=(GU x0 x1 x2 x3 x4 x5 x6 x7).choose_spec
theorem sQ (x0 x1 x2 x3 x4 x5 x6 x7:Int): ∃r:Int,Ev E 201 [.agg [vi x0,vi x1,vi x2],.agg [vi x3,vi x4,vi x5],.agg [vi x6,vi x7]] ⟨vi r,[]⟩:=by
 have key:=Ev.cO (R:=fun res=> ∃r:Int,res=⟨vi r,[]⟩) Wm (Wn [.agg [vi x0,vi x1,vi x2],.agg [vi x3,vi x4,vi x5],.agg [vi x6,vi x7]]) rfl ?_
 · obtain⟨res,h1,r,rfl⟩:=key
   exact⟨r,h1⟩
 (conv=>whnf);repeat' ((first| intro g| refine ag.mk _ (oi _ _) ?_| refine ag.mk _ (GS _ _ _ _ _) ?_| refine ag.mk _ (nj _ _ _ _ _ _ _ _ _) ?_| refine st ?_| (first| refine b1 ?_ ?_| refine b2 ?_ ?_| refine Br.mk ?_ ?_) <;>intro hc| exact rfl) <;>conv=>whnf)
 all_goals exact⟨_,rfl⟩
noncomputable def zu (x0 x1 x2 x3 x4 x5 x6 x7:Int):Int:=(sQ x0 x1 x2 x3 x4 x5 x6 x7).choose
theorem BA (x0 x1 x2 x3 x4 x5 x6 x7:Int):Ev E 201 [.agg [vi x0,vi x1,vi x2],.agg [vi x3,vi x4,vi x5],.agg [vi x6,vi x7]] ⟨vi (zu x0 x1 x2 x3 x4 x5 x6 x7),[]⟩:=(sQ x0 x1 x2 x3 x4 x5 x6 x7).choose_spec
theorem uO (x0 x1 x2 x3 x4 x5 x6 x7 x8 x9 Md Me Mf Mg:Int): ∃r:Bool,Ev E 202 [.agg [vi x0,vi x1,vi x2,vi x3,vi x4,vi x5,vi x6],.agg [vi x7,vi x8,vi x9,vi Md,vi Me,vi Mf,vi Mg]] ⟨.bool r,[]⟩:=by
 have key:=Ev.cO (R:=fun res=> ∃r:Bool,res=⟨.bool r,[]⟩) Wo (Wp [.agg [vi x0,vi x1,vi x2,vi x3,vi x4,vi x5,vi x6],.agg [vi x7,vi x8,vi x9,vi Md,vi Me,vi Mf,vi Mg]]) rfl ?_
 · obtain⟨res,h1,r,rfl⟩:=key
   exact⟨r,h1⟩
 (conv=>whnf);repeat' ((first| intro g| refine ag.mk _ (Bz _ _ _ _) ?_| refine ag.mk _ (nj _ _ _ _ _ _ _ _ _) ?_| refine st ?_| (first| refine b1 ?_ ?_| refine b2 ?_ ?_| refine Br.mk ?_ ?_) <;>intro hc| exact rfl) <;>conv=>whnf)
 all_goals exact⟨_,rfl⟩
noncomputable def Kk (x0 x1 x2 x3 x4 x5 x6 x7 x8 x9 Md Me Mf Mg:Int):Bool:=(uO x0 x1 x2 x3 x4 x5 x6 x7 x8 x9 Md Me Mf Mg).choose
theorem wV (x0 x1 x2 x3 x4 x5 x6 x7 x8 x9 Md Me Mf Mg:Int):Ev E 202 [.agg [vi x0,vi x1,vi x2,vi x3,vi x4,vi x5,vi x6],.agg [vi x7,vi x8,vi x9,vi Md,vi Me,vi Mf,vi Mg]] ⟨.bool (Kk x0 x1 x2 x3 x4 x5 x6 x7 x8 x9 Md Me Mf Mg),[]⟩:=(uO x0 x1 x2 x3 x4 x5 x6 x7 x8 x9 Md Me Mf Mg).choose_spec
end Go.AM
set_option maxRecDepth 20000
namespace Go.AM
structure ya where
 x:Int
 y:Int
 z:Int
def ya.v (s:ya):V:= .agg [vi s.x,vi s.y,vi s.z]
structure eG where
 id:Int
 mB:List ya
 left:Int
 right:Int
def eG.v (t:eG):V:= .agg [vi t.id,.lit 3 (t.mB.map ya.v),vi t.left,vi t.right]
theorem ya.bZ (l:List ya):V.an (l.map ya.v)=true:=AM.bZ (fun _=>rfl) l
theorem eG.bZ (l:List eG):V.an (l.map eG.v)=true:=AM.bZ (fun _=>rfl) l
def Xe (ts:List eG):Prop:=ts.length< 1000∧ ∀t ∈ ts,t.mB.length≤5
set_option maxHeartbeats 4000000 in
theorem Eo {es:List Edge} {n:Nat} (he:ij es n) (hn:n< 1000): ∃res,Ev E 164 [.lit 4 (es.map Edge.v)] res∧ ∃ts:List eG,Xe ts∧res=⟨.own 4 (ts.map eG.v),[]⟩:=by
 refine Ev.cO VM (VN _) rfl ?_
 have oO:=he.1
 (conv=>whnf);repeat' ((first| intro g| refine st ?_| (first| refine b1 ?_ ?_| refine b2 ?_ ?_| refine Br.mk ?_ ?_) <;>intro hc| exact rfl) <;>conv=>whnf)
 refine aV.by (fun ((k,ts,g):Nat×List eG×Nat)=> ⟨[(0,.lit 4 (es.map Edge.v)),(3,.sl 65 g 0 ts.length),(4,aD k)],[(65,⟨g,4,true,false,some (ts.map eG.v)⟩)]⟩)
   (fun (k,ts,g)=>k≤es.length∧ts.length=k∧ ∀t ∈ ts,t.mB.length≤5) (fun (k,_)=>es.length - k) (0,[],g) (by(refine⟨?_,?_⟩ <;>repeat' (first| exact True.intro| refine ai ?_| refine And.intro ?_ ?_))) ⟨by simp,by simp,by simp⟩ ?_
 rintro⟨k,ts,g⟩ ⟨hk,ht,hts⟩
 try dsimp only at hk ht hts
 by_cases bl:k<es.length
 · obtain⟨e,wP⟩: ∃e,es[k]? =some e:=⟨_,aE bl⟩
   have hlf:=he.2 e (List.mem_of_getElem? wP)
   have hl1:=hlf.1
   have CZ:=hlf.2
   (conv=>whnf);repeat' ((first| intro g| refine aL.mk _ (aq wP rfl) ?_| refine st ?_| (first| refine b1 ?_ ?_| refine b2 ?_ ?_| refine Br.mk ?_ ?_) <;>intro hc| exact rfl) <;>conv=>whnf)
   rename_i g5
   refine aV.by (fun ((i,ss,og):Nat×List ya×Option Nat)=> ⟨[(0,.lit 4 (es.map Edge.v)),(3,.sl 65 g5 0 ts.length),(4,aD k),(5,.ptr 96 g 0 0),(6,aD i)],
     match og with
     | none=> [(65,⟨g5,4,true,false,some (ts.map eG.v)⟩),(96,⟨g,4,false,false,some [.agg [vi e.id,.nils,vi e.left,vi e.right]]⟩)]
     | some g9=> [(65,⟨g5,4,true,false,some (ts.map eG.v)⟩),(96,⟨g,4,false,false,some [.agg [vi e.id,.sl 99 g9 0 ss.length,vi e.left,vi e.right]]⟩),(99,⟨g9,3,true,false,some (ss.map ya.v)⟩)]⟩)
     (fun (i,ss,og)=>i≤e.line.length∧ss.length=i∧(og=none→ss=[])) (fun (i,_)=>e.line.length - i) (0,[],none) ?_ ⟨by simp,by simp,by simp⟩ ?_
   · (refine⟨?_,?_⟩ <;>repeat' (first| exact True.intro| refine ai ?_| refine And.intro ?_ ?_))
   rintro⟨i,ss,og⟩ ⟨hi,hs,Q4⟩
   try dsimp only at hi hs Q4
   by_cases gu:i<e.line.length
   · obtain⟨x,hx⟩: ∃x,e.line[i]? =some x:=⟨_,aE gu⟩
     have uP:Ev E 199 [x.v] ⟨.agg [vi x.x,vi x.y,vi 1],[]⟩:=oi x.x x.y
     cases og with
     | none=>
       obtain rfl:=Q4 rfl
       (conv=>whnf);repeat' ((first| intro g| refine aL.mk _ (aq wP rfl) ?_| refine aL.mk _ (aq hx rfl) ?_| refine ag.mk _ (uP) ?_| refine st ?_| (first| refine b1 ?_ ?_| refine b2 ?_ ?_| refine Br.mk ?_ ?_) <;>intro hc| exact rfl) <;>conv=>whnf)
       exact a9.mk (i+1,[⟨x.x,x.y,1⟩],some g) (by first| omega| (dsimp only;omega)) ⟨(by first| omega| (dsimp only;omega)),by simp at hs ⊢;omega,by simp⟩ (by(refine⟨?_,?_⟩ <;>repeat' (first| exact True.intro| refine ai ?_| refine And.intro ?_ ?_)))
     | some g9=>
       (conv=>whnf);repeat' ((first| intro g| refine aL.mk _ (aq wP rfl) ?_| refine aL.mk _ (aq hx rfl) ?_| refine ag.mk _ (uP) ?_| refine st ?_| (first| refine b1 ?_ ?_| refine b2 ?_ ?_| refine Br.mk ?_ ?_) <;>intro hc| exact rfl) <;>conv=>whnf)
       exact a9.mk (i+1,ss++[⟨x.x,x.y,1⟩],some g) (by first| omega| (dsimp only;omega)) ⟨(by first| omega| (dsimp only;omega)),by simp;omega,by simp⟩ (by(refine⟨?_,?_⟩ <;>repeat' (first| exact True.intro| refine ai ?_| refine And.intro ?_ ?_)))
   · cases og with
     | none=>
       obtain rfl:=Q4 rfl
       simp at hs
       omega
     | some g9=>
       (conv=>whnf);repeat' ((first| intro g| refine aL.mk _ (aq wP rfl) ?_| refine st ?_| (first| refine b1 ?_ ?_| refine b2 ?_ ?_| refine Br.mk ?_ ?_) <;>intro hc| exact rfl) <;>conv=>whnf)
       refine a9.mk (k+1,ts++[⟨e.id,ss,e.left,e.right⟩],g) (by first| omega| (dsimp only;omega)) ⟨(by first| omega| (dsimp only;omega)),by simp;omega,?_⟩ (by(refine⟨?_,?_⟩ <;>repeat' (first| exact True.intro| refine ai ?_| refine And.intro ?_ ?_)))
       intro t h
       rcases List.mem_append.1 h with h| h
       · exact hts t h
       · have:t=⟨e.id,ss,e.left,e.right⟩:=by simpa using h
         subst this;dsimp only;omega
 · (conv=>whnf);repeat' ((first| intro g| refine st ?_| (first| refine b1 ?_ ?_| refine b2 ?_ ?_| refine Br.mk ?_ ?_) <;>intro hc| exact rfl) <;>conv=>whnf)
   exact⟨ts,⟨by omega,hts⟩,rfl⟩
end Go.AM
set_option maxRecDepth 20000
namespace Go.AM
set_option maxHeartbeats 4000000 in
theorem yb {ts:List eG} (ht:Xe ts) (p:Pt): ∃ (r:Int) (b:Bool),Ev E 163 [.lit 4 (ts.map eG.v),p.v] ⟨.tuple [vi r,.bool b],[]⟩:=by
 have key:=Ev.cO (R:=fun res=> ∃ (r:Int) (b:Bool),res=⟨.tuple [vi r,.bool b],[]⟩) VK (VL [.lit 4 (ts.map eG.v),p.v]) rfl ?_
 · obtain⟨res,h1,r,b,rfl⟩:=key
   exact⟨r,b,h1⟩
 have uP:Ev E 199 [p.v] ⟨.agg [vi p.x,vi p.y,vi 1],[]⟩:=oi p.x p.y
 have Rf:=ht.1
 (conv=>whnf);repeat' ((first| intro g| refine ag.mk _ (uP) ?_| refine ag.mk _ (uN _ _ _) ?_| refine st ?_| (first| refine b1 ?_ ?_| refine b2 ?_ ?_| refine Br.mk ?_ ?_) <;>intro hc| exact rfl) <;>conv=>whnf)
 · exact⟨_,_,rfl⟩
 refine aV.by (fun (k:Nat)=> ⟨[(0,.lit 4 (ts.map eG.v)),(3,.ptr 64 g 0 0),(6,aD k)],[(64,⟨g,2,false,false,some [p.v]⟩)]⟩)
   (fun k=>k≤ts.length) (fun k=>ts.length - k) 0 (by(refine⟨?_,?_⟩ <;>repeat' (first| exact True.intro| refine ai ?_| refine And.intro ?_ ?_))) (by first| omega| (dsimp only;omega)) ?_
 intro k hk
 by_cases bl:k<ts.length
 · obtain⟨t,he⟩: ∃t,ts[k]? =some t:=⟨_,aE bl⟩
   have htf:=ht.2 t (List.mem_of_getElem? he)
   (conv=>whnf);repeat' ((first| intro g| refine st ?_| (first| refine b1 ?_ ?_| refine b2 ?_ ?_| refine Br.mk ?_ ?_) <;>intro hc| exact rfl) <;>conv=>whnf)
   refine aV.by (fun (i:Nat)=> ⟨[(0,.lit 4 (ts.map eG.v)),(3,.ptr 64 g 0 0),(6,aD k),(7,aD i)],[(64,⟨g,2,false,false,some [p.v]⟩)]⟩)
     (fun i=>i≤t.mB.length) (fun i=>t.mB.length - i) 0 (by(refine⟨?_,?_⟩ <;>repeat' (first| exact True.intro| refine ai ?_| refine And.intro ?_ ?_))) (by first| omega| (dsimp only;omega)) ?_
   intro i hi
   by_cases gu:i<t.mB.length
   · obtain⟨s,hs⟩: ∃s,t.mB[i]? =some s:=⟨_,aE gu⟩
     have hb:Ev E 198 [s.v] ⟨.bool (zs s.x s.y s.z),[]⟩:=uN s.x s.y s.z
     (conv=>whnf);repeat' ((first| intro g| refine aL.mk _ (aq he rfl) ?_| refine aL.mk _ (aq hs rfl) ?_| refine ag.mk _ (hb) ?_| refine st ?_| (first| refine b1 ?_ ?_| refine b2 ?_ ?_| refine Br.mk ?_ ?_) <;>intro hc| exact rfl) <;>conv=>whnf)
     · exact⟨_,_,rfl⟩
     · exact a9.mk (i+1) (by first| omega| (dsimp only;omega)) (by first| omega| (dsimp only;omega)) (by(refine⟨?_,?_⟩ <;>repeat' (first| exact True.intro| refine ai ?_| refine And.intro ?_ ?_)))
   · (conv=>whnf);repeat' ((first| intro g| refine aL.mk _ (aq he rfl) ?_| refine st ?_| (first| refine b1 ?_ ?_| refine b2 ?_ ?_| refine Br.mk ?_ ?_) <;>intro hc| exact rfl) <;>conv=>whnf)
     exact a9.mk (k+1) (by first| omega| (dsimp only;omega)) (by first| omega| (dsimp only;omega)) (by(refine⟨?_,?_⟩ <;>repeat' (first| exact True.intro| refine ai ?_| refine And.intro ?_ ?_)))
 · (conv =>whnf);repeat' ((first| intro g| refine st ?_| (first| refine b1 ?_ ?_| refine b2 ?_ ?_| refine Br.mk ?_ ?_) <;>intro hc| exact rfl) <;>conv=>whnf)
   rename_i g3
   refine aV.by (fun ((k,found,a1,a2,a3,a4,a5,a6,a7):Nat×Bool×Int×Int×Int×Int×Int×Int×Int)=> ⟨[(0,.lit 4 (ts.map eG.v)),(3,.ptr 64 g3 0 0),(8,.bool found),(9,.ptr 160 g 0 0),(10,aD k)],[(64,⟨g3,2,false,false,some [p.v]⟩),(160,⟨g,7,false,false,some [.agg [vi a1,vi a2,vi a3,vi a4,vi a5,vi a6,vi a7]]⟩)]⟩)
     (fun (k,_)=>k≤ts.length) (fun (k,_)=>ts.length - k) (0,false,0,0,0,0,0,0,0) (by(refine⟨?_,?_⟩ <;>repeat' (first| exact True.intro| refine ai ?_| refine And.intro ?_ ?_))) (by first| omega| (dsimp only;omega)) ?_
   rintro⟨k,found,a1,a2,a3,a4,a5,a6,a7⟩ hk
   try dsimp only at hk
   by_cases bl:k<ts.length
   · obtain⟨t,he⟩: ∃t,ts[k]? =some t:=⟨_,aE bl⟩
     have htf:=ht.2 t (List.mem_of_getElem? he)
     (conv=>whnf);repeat' ((first| intro g| refine st ?_| (first| refine b1 ?_ ?_| refine b2 ?_ ?_| refine Br.mk ?_ ?_) <;>intro hc| exact rfl) <;>conv=>whnf)
     refine aV.by (fun ((j,found,a1,a2,a3,a4,a5,a6,a7):Nat×Bool×Int×Int×Int×Int×Int×Int×Int)=> ⟨[(0,.lit 4 (ts.map eG.v)),(3,.ptr 64 g3 0 0),(8,.bool found),(9,.ptr 160 g 0 0),(10,aD k),(11,aD j)],[(64,⟨g3,2,false,false,some [p.v]⟩),(160,⟨g,7,false,false,some [.agg [vi a1,vi a2,vi a3,vi a4,vi a5,vi a6,vi a7]]⟩)]⟩)
       (fun (j,_)=>j≤t.mB.length) (fun (j,_)=>t.mB.length - j) (0,found,a1,a2,a3,a4,a5,a6,a7) (by(refine⟨?_,?_⟩ <;>repeat' (first| exact True.intro| refine ai ?_| refine And.intro ?_ ?_))) (by first| omega| (dsimp only;omega)) ?_
     rintro⟨j,found,a1,a2,a3,a4,a5,a6,a7⟩ hj
     try dsimp only at hj
     have e1:IntKind.i64.wrap ((j:Int)+1)=((j+1:Nat):Int):=(wrap64 (by omega) (by omega)).trans (by omega)
     by_cases hlj:j+1 <t.mB.length
     · obtain⟨x,hx⟩: ∃s,t.mB[j]? =some s:=⟨_,aE (by omega)⟩
       obtain⟨y,hy⟩: ∃s,t.mB[j+1]? =some s:=⟨_,aE hlj⟩
       have hon:Ev E 200 [x.v,y.v,p.v] ⟨.bool (onF x.x x.y x.z y.x y.y y.z p.x p.y),[]⟩:=Xd _ _ _ _ _ _ _ _
       have Xf:Ev E 201 [x.v,y.v,p.v] ⟨vi (zu x.x x.y x.z y.x y.y y.z p.x p.y),[]⟩:=BA _ _ _ _ _ _ _ _
       cases found
       · (conv=>whnf);repeat' ((first| intro g| refine aL.mk _ (aq he rfl) ?_| refine aL.mk _ (aq hx rfl) ?_| refine aL.mk _ (aq hy e1) ?_| refine ag.mk _ (hon) ?_| refine ag.mk _ (Xf) ?_| refine ag.mk _ (wV _ _ _ _ _ _ _ _ _ _ _ _ _ _) ?_| refine st ?_| (first| refine b1 ?_ ?_| refine b2 ?_ ?_| refine Br.mk ?_ ?_) <;>intro hc| exact rfl) <;>conv=>whnf)
         · exact⟨_,_,rfl⟩
         · exact a9.mk (j+1,true,y.x,y.y,y.z,x.x,x.y,x.z,t.left) (by first| omega| (dsimp only;omega)) (by first| omega| (dsimp only;omega)) (by(refine⟨?_,?_⟩ <;>repeat' (first| exact True.intro| refine ai ?_| refine And.intro ?_ ?_)))
         · exact a9.mk (j+1,true,x.x,x.y,x.z,y.x,y.y,y.z,t.right) (by first| omega| (dsimp only;omega)) (by first| omega| (dsimp only;omega)) (by(refine⟨?_,?_⟩ <;>repeat' (first| exact True.intro| refine ai ?_| refine And.intro ?_ ?_)))
         · exact a9.mk (j+1,false,a1,a2,a3,a4,a5,a6,a7) (by first| omega| (dsimp only;omega)) (by first| omega| (dsimp only;omega)) (by(refine⟨?_,?_⟩ <;>repeat' (first| exact True.intro| refine ai ?_| refine And.intro ?_ ?_)))
       · (conv=>whnf);repeat' ((first| intro g| refine aL.mk _ (aq he rfl) ?_| refine aL.mk _ (aq hx rfl) ?_| refine aL.mk _ (aq hy e1) ?_| refine ag.mk _ (hon) ?_| refine ag.mk _ (Xf) ?_| refine ag.mk _ (wV _ _ _ _ _ _ _ _ _ _ _ _ _ _) ?_| refine st ?_| (first| refine b1 ?_ ?_| refine b2 ?_ ?_| refine Br.mk ?_ ?_) <;>intro hc| exact rfl) <;>conv=>whnf)
         · exact⟨_,_,rfl⟩
         · exact a9.mk (j+1,true,y.x,y.y,y.z,x.x,x.y,x.z,t.left) (by first| omega| (dsimp only;omega)) (by first| omega| (dsimp only;omega)) (by(refine⟨?_,?_⟩ <;>repeat' (first| exact True.intro| refine ai ?_| refine And.intro ?_ ?_)))
         · exact a9.mk (j+1,true,a1,a2,a3,a4,a5,a6,a7) (by first| omega| (dsimp only;omega)) (by first| omega| (dsimp only;omega)) (by(refine⟨?_,?_⟩ <;>repeat' (first| exact True.intro| refine ai ?_| refine And.intro ?_ ?_)))
         · exact a9.mk (j+1,true,x.x,x.y,x.z,y.x,y.y,y.z,t.right) (by first| omega| (dsimp only;omega)) (by first| omega| (dsimp only;omega)) (by(refine⟨?_,?_⟩ <;>repeat' (first| exact True.intro| refine ai ?_| refine And.intro ?_ ?_)))
         · exact a9.mk (j+1,true,a1,a2,a3,a4,a5,a6,a7) (by first| omega| (dsimp only;omega)) (by first| omega| (dsimp only;omega)) (by(refine⟨?_,?_⟩ <;>repeat' (first| exact True.intro| refine ai ?_| refine And.intro ?_ ?_)))
         · exact a9.mk (j+1,true,a1,a2,a3,a4,a5,a6,a7) (by first| omega| (dsimp only;omega)) (by first| omega| (dsimp only;omega)) (by(refine⟨?_,?_⟩ <;>repeat' (first| exact True.intro| refine ai ?_| refine And.intro ?_ ?_)))
     · (conv=>whnf);repeat' ((first| intro g| refine aL.mk _ (aq he rfl) ?_| refine st ?_| (first| refine b1 ?_ ?_| refine b2 ?_ ?_| refine Br.mk ?_ ?_) <;>intro hc| exact rfl) <;>conv=>whnf)
       exact a9.mk (k+1,found,a1,a2,a3,a4,a5,a6,a7) (by first| omega| (dsimp only;omega)) (by first| omega| (dsimp only;omega)) (by(refine⟨?_,?_⟩ <;>repeat' (first| exact True.intro| refine ai ?_| refine And.intro ?_ ?_)))
   · (conv=>whnf);repeat' ((first| intro g| refine st ?_| (first| refine b1 ?_ ?_| refine b2 ?_ ?_| refine Br.mk ?_ ?_) <;>intro hc| exact rfl) <;>conv=>whnf)
     exact⟨_,_,rfl⟩
end Go.AM
set_option maxRecDepth 20000
namespace Go.AM
set_option maxHeartbeats 4000000 in
theorem Rg {es:List Edge} {n:Nat} (he:ij es n) (hn:n< 1000) (p:Pt): ∃ (r:Int) (b:Bool),Ev E 121 [.lit 4 (es.map Edge.v),p.v] ⟨.tuple [vi r,.bool b],[]⟩:=by
 have key:=Ev.cO (R:=fun res=> ∃ (r:Int) (b:Bool),res=⟨.tuple [vi r,.bool b],[]⟩) Vo (Vp [.lit 4 (es.map Edge.v),p.v]) rfl ?_
 · obtain⟨res,h1,r,b,rfl⟩:=key
   exact⟨r,b,h1⟩
 (conv=>whnf);repeat' ((first| intro g| refine st ?_| (first| refine b1 ?_ ?_| refine b2 ?_ ?_| refine Br.mk ?_ ?_) <;>intro hc| exact rfl) <;>conv=>whnf)
 refine ag.ex (Eo he hn) ?_
 rintro _ ⟨ts,ht,rfl⟩
 obtain⟨r,b,hr⟩:=yb ht p
 (conv=>whnf);repeat' ((first| intro g| refine ag.mk _ (hr) ?_| refine st ?_| (first| refine b1 ?_ ?_| refine b2 ?_ ?_| refine Br.mk ?_ ?_) <;>intro hc| exact rfl) <;>conv=>whnf)
 exact⟨_,_,rfl⟩
set_option maxHeartbeats 4000000 in
theorem qF (m:aQ) (hf:m.bn.length< 1000) (id:Int): ∃r:Int,Ev E 122 [m.v,vi id] ⟨vi r,[]⟩:=by
 have key:=Ev.cO (R:=fun res=> ∃r:Int,res=⟨vi r,[]⟩) Vq (Vr [m.v,vi id]) rfl ?_
 · obtain⟨res,h1,r,rfl⟩:=key
   exact⟨r,h1⟩
 (conv=>whnf);repeat' ((first| intro g| refine st ?_| (first| refine b1 ?_ ?_| refine b2 ?_ ?_| refine Br.mk ?_ ?_) <;>intro hc| exact rfl) <;>conv=>whnf)
 refine aV.by (fun (k:Nat)=> ⟨[(1,vi id),(2,.ptr 48 g 0 0),(5,aD k)],[(48,⟨g,4,false,false,some [m.v]⟩)]⟩)
   (fun k=>k≤m.bn.length) (fun k=>m.bn.length - k) 0 (by(refine⟨?_,?_⟩ <;>repeat' (first| exact True.intro| refine ai ?_| refine And.intro ?_ ?_))) (by first| omega| (dsimp only;omega)) ?_
 intro k hk
 by_cases bl:k<m.bn.length
 · obtain⟨f,hx⟩: ∃f,m.bn[k]? =some f:=⟨_,aE bl⟩
   (conv=>whnf);repeat' ((first| intro g| refine aL.mk _ (aq hx rfl) ?_| refine st ?_| (first| refine b1 ?_ ?_| refine b2 ?_ ?_| refine Br.mk ?_ ?_) <;>intro hc| exact rfl) <;>conv=>whnf)
   · exact⟨_,rfl⟩
   · exact a9.mk (k+1) (by first| omega| (dsimp only;omega)) (by first| omega| (dsimp only;omega)) (by(refine⟨?_,?_⟩ <;>repeat' (first| exact True.intro| refine ai ?_| refine And.intro ?_ ?_)))
 · (conv=>whnf);repeat' ((first| intro g| refine st ?_| (first| refine b1 ?_ ?_| refine b2 ?_ ?_| refine Br.mk ?_ ?_) <;>intro hc| exact rfl) <;>conv=>whnf)
   exact⟨_,rfl⟩
end Go.AM
