/-
  Texts of the proof: SFarA, LmA, SFarB, SFarC, SFarD.
-/
import Derived.Test.YtjkmpppkkhbjkaaGreatDa
import Derived.Test.YtjkmpppkkhbjkaaGreatBase
import Derived.Test.YtjkmpppkkhbjkaaGreatMa
set_option maxRecDepth 20000
set_option maxHeartbeats 4000000
set_option linter.unusedSimpArgs false
set_option linter.unusedVariables false
set_option maxHeartbeats 4000000
namespace Go.AM
theorem y6 (x0:Int): ∃r:Int,Ev E 283 [vi x0] ⟨vi r,[]⟩:=by
 have key:=Ev.bz (R:=fun res=> ∃r:Int,res=⟨vi r,[]⟩) N1 (N2 [vi x0]) rfl ?_
 · obtain⟨res,h1,r,rfl⟩:=key
   exact⟨r,h1⟩
 (conv=>whnf);repeat' ((first| intro g| refine st ?_| (first| refine b1 ?_ ?_| refine b2 ?_ ?_| refine Br.mk ?_ ?_) <;>intro hc| exact rfl) <;>conv=>whnf)
 all_goals exact⟨_,rfl⟩
noncomputable def Fy (x0:Int):Int:=(y6 x0).choose
theorem Iv (x0:Int):Ev E 283 [vi x0] ⟨vi (Fy x0),[]⟩:=(y6 x0).choose_spec
theorem y7 (x0:Int): ∃r:Int,Ev E 285 [vi x0] ⟨.int .u64 r,[]⟩:=by
 have key:=Ev.bz (R:=fun res=> ∃r:Int,res=⟨.int .u64 r,[]⟩) N3 (N4 [vi x0]) rfl ?_
 · obtain⟨res,h1,r,rfl⟩:=key
   exact⟨r,h1⟩
 (conv=>whnf);repeat' ((first| intro g| refine st ?_| (first| refine b1 ?_ ?_| refine b2 ?_ ?_| refine Br.mk ?_ ?_) <;>intro hc| exact rfl) <;>conv=>whnf)
 all_goals exact⟨_,rfl⟩
noncomputable def y8 (x0:Int):Int:=(y7 x0).choose
theorem Iw (x0:Int):Ev E 285 [vi x0] ⟨.int .u64 (y8 x0),[]⟩:=(y7 x0).choose_spec
theorem rV (x0 x1:Int): ∃r:Int×Int,Ev E 284 [.int .u64 x0,.int .u64 x1] ⟨.agg [.int .u64 r.1,.int .u64 r.2],[]⟩:=by
 have key:=Ev.bz (R:=fun res=> ∃r:Int×Int,res=⟨.agg [.int .u64 r.1,.int .u64 r.2],[]⟩) N5 (N6 [.int .u64 x0,.int .u64 x1]) rfl ?_
 · obtain⟨res,h1,r,rfl⟩:=key
   exact⟨r,h1⟩
 (conv=>whnf);repeat' ((first| intro g| refine st ?_| (first| refine b1 ?_ ?_| refine b2 ?_ ?_| refine Br.mk ?_ ?_) <;>intro hc| exact rfl) <;>conv=>whnf)
 all_goals exact⟨⟨_,_⟩,rfl⟩
noncomputable def qb (x0 x1:Int):Int×Int:=(rV x0 x1).choose
theorem Bc (x0 x1:Int):Ev E 284 [.int .u64 x0,.int .u64 x1] ⟨.agg [.int .u64 (qb x0 x1).1,.int .u64 (qb x0 x1).2],[]⟩:=(rV x0 x1).choose_spec
theorem rW (x0 x1 x2:Int): ∃r:Bool,Ev E 282 [vi x0,vi x1,vi x2] ⟨.bool r,[]⟩:=by
 have key:=Ev.bz (R:=fun res=> ∃r:Bool,res=⟨.bool r,[]⟩) Ka (Kb [vi x0,vi x1,vi x2]) rfl ?_
 · obtain⟨res,h1,r,rfl⟩:=key
   exact⟨r,h1⟩
 (conv=>whnf);repeat' ((first| intro g| refine st ?_| (first| refine b1 ?_ ?_| refine b2 ?_ ?_| refine Br.mk ?_ ?_) <;>intro hc| exact rfl) <;>conv=>whnf)
 all_goals exact⟨_,rfl⟩
noncomputable def Fz (x0 x1 x2:Int):Bool:=(rW x0 x1 x2).choose
theorem lh (x0 x1 x2:Int):Ev E 282 [vi x0,vi x1,vi x2] ⟨.bool (Fz x0 x1 x2),[]⟩:=(rW x0 x1 x2).choose_spec
theorem Cu (x0 x1 x2:Int): ∃r:Bool,Ev E 270 [.agg [vi x0,vi x1,vi x2]] ⟨.bool r,[]⟩:=by
 have key:=Ev.bz (R:=fun res=> ∃r:Bool,res=⟨.bool r,[]⟩) N7 (N8 [.agg [vi x0,vi x1,vi x2]]) rfl ?_
 · obtain⟨res,h1,r,rfl⟩:=key
   exact⟨r,h1⟩
 (conv=>whnf);repeat' ((first| intro g| refine ah.mk _ (lh _ _ _) ?_| refine st ?_| (first| refine b1 ?_ ?_| refine b2 ?_ ?_| refine Br.mk ?_ ?_) <;>intro hc| exact rfl) <;>conv=>whnf)
 all_goals exact⟨_,rfl⟩
noncomputable def ZB (x0 x1 x2:Int):Bool:=(Cu x0 x1 x2).choose
theorem Lw (x0 x1 x2:Int):Ev E 270 [.agg [vi x0,vi x1,vi x2]] ⟨.bool (ZB x0 x1 x2),[]⟩:=(Cu x0 x1 x2).choose_spec
theorem rX (x0 x1 x2:Int): ∃r:Bool,Ev E 198 [.agg [vi x0,vi x1,vi x2]] ⟨.bool r,[]⟩:=by
 have key:=Ev.bz (R:=fun res=> ∃r:Bool,res=⟨.bool r,[]⟩) N9 (Oa [.agg [vi x0,vi x1,vi x2]]) rfl ?_
 · obtain⟨res,h1,r,rfl⟩:=key
   exact⟨r,h1⟩
 (conv=>whnf);repeat' ((first| intro g| refine st ?_| (first| refine b1 ?_ ?_| refine b2 ?_ ?_| refine Br.mk ?_ ?_) <;>intro hc| exact rfl) <;>conv=>whnf)
 all_goals exact⟨_,rfl⟩
noncomputable def y9 (x0 x1 x2:Int):Bool:=(rX x0 x1 x2).choose
theorem ue (x0 x1 x2:Int):Ev E 198 [.agg [vi x0,vi x1,vi x2]] ⟨.bool (y9 x0 x1 x2),[]⟩:=(rX x0 x1 x2).choose_spec
theorem nu (x y:Int):Ev E 199 [.agg [vi x,vi y]] ⟨.agg [vi x,vi y,vi 1],[]⟩:=by
 refine Ev.aT Ob (Oc _) rfl ?_
 (conv=>whnf);repeat' ((first| intro g| refine st ?_| (first| refine b1 ?_ ?_| refine b2 ?_ ?_| refine Br.mk ?_ ?_) <;>intro hc| exact rfl) <;>conv=>whnf)
theorem wz (x0 x1 x2 x3:Int): ∃r:Int,Ev E 271 [vi x0,vi x1,vi x2,vi x3] ⟨vi r,[]⟩:=by
 have key:=Ev.bz (R:=fun res=> ∃r:Int,res=⟨vi r,[]⟩) Od (Oe [vi x0,vi x1,vi x2,vi x3]) rfl ?_
 · obtain⟨res,h1,r,rfl⟩:=key
   exact⟨r,h1⟩
 (conv=>whnf);repeat' ((first| intro g| refine ah.mk _ (Iv _) ?_| refine ah.mk _ (Iw _) ?_| refine ah.mk _ (Bc _ _) ?_| refine st ?_| (first| refine b1 ?_ ?_| refine b2 ?_ ?_| refine Br.mk ?_ ?_) <;>intro hc| exact rfl) <;>conv=>whnf)
 · exact⟨_,rfl⟩
 rename_i fL
 generalize hu:qb (y8 x0) (y8 x1)=u
 generalize hv:qb (y8 x2) (y8 x3)=v
 obtain⟨u0,u1⟩:=u
 obtain⟨v0,v1⟩:=v
 generalize hs:IntKind.i64.wrap (Fy x0*Fy x1)=s
 refine aI.by (fun (k:Nat)=> ⟨[(9,vi s),(11,.ptr 192 fL 0 0),(12,.ptr 208 g 0 0),(13,aC k)],[(192,⟨fL,2,false,false,some [.agg [.int .u64 u0,.int .u64 u1]]⟩),(208,⟨g,2,false,false,some [.agg [.int .u64 v0,.int .u64 v1]]⟩)]⟩)
   (fun k=>k≤2) (fun k=>2 - k) 0 (by(refine⟨?_,?_⟩ <;>repeat' (first| exact True.intro| refine ai ?_| refine And.intro ?_ ?_))) (by first| omega| (dsimp only;omega)) ?_
 intro k hk
 rcases(by omega:k=0∨k=1∨k=2) with rfl| rfl| rfl
 · (conv=>whnf);repeat' ((first| intro g| refine st ?_| (first| refine b1 ?_ ?_| refine b2 ?_ ?_| refine Br.mk ?_ ?_) <;>intro hc| exact rfl) <;>conv=>whnf)
   all_goals first| exact⟨_,rfl⟩ | exact aE.mk 1 (by first| omega| (dsimp only;omega)) (by first| omega| (dsimp only;omega)) (by(refine⟨?_,?_⟩ <;>repeat' (first| exact True.intro| refine ai ?_| refine And.intro ?_ ?_)))
 · (conv=>whnf);repeat' ((first| intro g| refine st ?_| (first| refine b1 ?_ ?_| refine b2 ?_ ?_| refine Br.mk ?_ ?_) <;>intro hc| exact rfl) <;>conv=>whnf)
   all_goals first| exact⟨_,rfl⟩ | exact aE.mk 2 (by first| omega| (dsimp only;omega)) (by first| omega| (dsimp only;omega)) (by(refine⟨?_,?_⟩ <;>repeat' (first| exact True.intro| refine ai ?_| refine And.intro ?_ ?_)))
 · (conv=>whnf);repeat' ((first| intro g| refine st ?_| (first| refine b1 ?_ ?_| refine b2 ?_ ?_| refine Br.mk ?_ ?_) <;>intro hc| exact rfl) <;>conv=>whnf)
   exact⟨_,rfl⟩
noncomputable def Lx (x0 x1 x2 x3:Int):Int:=(wz x0 x1 x2 x3).choose
theorem uf (x0 x1 x2 x3:Int):Ev E 271 [vi x0,vi x1,vi x2,vi x3] ⟨vi (Lx x0 x1 x2 x3),[]⟩:=(wz x0 x1 x2 x3).choose_spec
theorem Cv (x0 x1 x2 x3:Int): ∃r:Int,Ev E 238 [.agg [vi x0,vi x1],.agg [vi x2,vi x3]] ⟨vi r,[]⟩:=by
 have key:=Ev.bz (R:=fun res=> ∃r:Int,res=⟨vi r,[]⟩) Og (Oi [.agg [vi x0,vi x1],.agg [vi x2,vi x3]]) rfl ?_
 · obtain⟨res,h1,r,rfl⟩:=key
   exact⟨r,h1⟩
 (conv=>whnf);repeat' ((first| intro g| refine ah.mk _ (uf _ _ _ _) ?_| refine st ?_| (first| refine b1 ?_ ?_| refine b2 ?_ ?_| refine Br.mk ?_ ?_) <;>intro hc| exact rfl) <;>conv=>whnf)
 all_goals exact⟨_,rfl⟩
noncomputable def ZC (x0 x1 x2 x3:Int):Int:=(Cv x0 x1 x2 x3).choose
theorem Bd (x0 x1 x2 x3:Int):Ev E 238 [.agg [vi x0,vi x1],.agg [vi x2,vi x3]] ⟨vi (ZC x0 x1 x2 x3),[]⟩:=(Cv x0 x1 x2 x3).choose_spec
theorem wA (x0 x1 x2 x3 x4:Int): ∃r:Int,Ev E 236 [vi x0,.agg [vi x1,vi x2],.agg [vi x3,vi x4]] ⟨vi r,[]⟩:=by
 have key:=Ev.bz (R:=fun res=> ∃r:Int,res=⟨vi r,[]⟩) Oj (Ok [vi x0,.agg [vi x1,vi x2],.agg [vi x3,vi x4]]) rfl ?_
 · obtain⟨res,h1,r,rfl⟩:=key
   exact⟨r,h1⟩
 (conv=>whnf);repeat' ((first| intro g| refine ah.mk _ (Bd _ _ _ _) ?_| refine st ?_| (first| refine b1 ?_ ?_| refine b2 ?_ ?_| refine Br.mk ?_ ?_) <;>intro hc| exact rfl) <;>conv=>whnf)
 all_goals exact⟨_,rfl⟩
noncomputable def Ly (x0 x1 x2 x3 x4:Int):Int:=(wA x0 x1 x2 x3 x4).choose
theorem FA (x0 x1 x2 x3 x4:Int):Ev E 236 [vi x0,.agg [vi x1,vi x2],.agg [vi x3,vi x4]] ⟨vi (Ly x0 x1 x2 x3 x4),[]⟩:=(wA x0 x1 x2 x3 x4).choose_spec
theorem wB (x0 x1 x2 x3 x4:Int): ∃r:Bool,Ev E 237 [.agg [vi x0,vi x1,vi x2],.agg [vi x3,vi x4]] ⟨.bool r,[]⟩:=by
 have key:=Ev.bz (R:=fun res=> ∃r:Bool,res=⟨.bool r,[]⟩) Ol (Om [.agg [vi x0,vi x1,vi x2],.agg [vi x3,vi x4]]) rfl ?_
 · obtain⟨res,h1,r,rfl⟩:=key
   exact⟨r,h1⟩
 (conv=>whnf);repeat' ((first| intro g| refine ah.mk _ (Bd _ _ _ _) ?_| refine st ?_| (first| refine b1 ?_ ?_| refine b2 ?_ ?_| refine Br.mk ?_ ?_) <;>intro hc| exact rfl) <;>conv=>whnf)
 all_goals exact⟨_,rfl⟩
noncomputable def Lz (x0 x1 x2 x3 x4:Int):Bool:=(wB x0 x1 x2 x3 x4).choose
theorem FB (x0 x1 x2 x3 x4:Int):Ev E 237 [.agg [vi x0,vi x1,vi x2],.agg [vi x3,vi x4]] ⟨.bool (Lz x0 x1 x2 x3 x4),[]⟩:=(wB x0 x1 x2 x3 x4).choose_spec
theorem qc (x0 x1 x2 x3 x4 x5 x6 x7 x8:Int): ∃r:Int,Ev E 235 [.agg [vi x0,vi x1,vi x2],.agg [vi x3,vi x4,vi x5],.agg [vi x6,vi x7,vi x8]] ⟨vi r,[]⟩:=by
 have key:=Ev.bz (R:=fun res=> ∃r:Int,res=⟨vi r,[]⟩) Oo (Oq [.agg [vi x0,vi x1,vi x2],.agg [vi x3,vi x4,vi x5],.agg [vi x6,vi x7,vi x8]]) rfl ?_
 · obtain⟨res,h1,r,rfl⟩:=key
   exact⟨r,h1⟩
 (conv=>whnf);repeat' ((first| intro g| refine ah.mk _ (Lw _ _ _) ?_| refine ah.mk _ (uf _ _ _ _) ?_| refine st ?_| (first| refine b1 ?_ ?_| refine b2 ?_ ?_| refine Br.mk ?_ ?_) <;>intro hc| exact rfl) <;>conv=>whnf)
 all_goals exact⟨_,rfl⟩
noncomputable def Dz (x0 x1 x2 x3 x4 x5 x6 x7 x8:Int):Int:=(qc x0 x1 x2 x3 x4 x5 x6 x7 x8).choose
theorem my (x0 x1 x2 x3 x4 x5 x6 x7 x8:Int):Ev E 235 [.agg [vi x0,vi x1,vi x2],.agg [vi x3,vi x4,vi x5],.agg [vi x6,vi x7,vi x8]] ⟨vi (Dz x0 x1 x2 x3 x4 x5 x6 x7 x8),[]⟩:=(qc x0 x1 x2 x3 x4 x5 x6 x7 x8).choose_spec
theorem FC (x0 x1 x2 x3 x4 x5 x6 x7:Int): ∃r:Bool,Ev E 200 [.agg [vi x0,vi x1,vi x2],.agg [vi x3,vi x4,vi x5],.agg [vi x6,vi x7]] ⟨.bool r,[]⟩:=by
 have key:=Ev.bz (R:=fun res=> ∃r:Bool,res=⟨.bool r,[]⟩) Ot (Ou [.agg [vi x0,vi x1,vi x2],.agg [vi x3,vi x4,vi x5],.agg [vi x6,vi x7]]) rfl ?_
 · obtain⟨res,h1,r,rfl⟩:=key
   exact⟨r,h1⟩
 (conv=>whnf);repeat' ((first| intro g| refine ah.mk _ (nu _ _) ?_| refine ah.mk _ (my _ _ _ _ _ _ _ _ _) ?_| refine ah.mk _ (FA _ _ _ _ _) ?_| refine st ?_| (first| refine b1 ?_ ?_| refine b2 ?_ ?_| refine Br.mk ?_ ?_) <;>intro hc| exact rfl) <;>conv=>whnf)
 all_goals exact⟨_,rfl⟩
noncomputable def onF (x0 x1 x2 x3 x4 x5 x6 x7:Int):Bool:=(FC x0 x1 x2 x3 x4 x5 x6 x7).choose
theorem Ov (x0 x1 x2 x3 x4 x5 x6 x7:Int):Ev E 200 [.agg [vi x0,vi x1,vi x2],.agg [vi x3,vi x4,vi x5],.agg [vi x6,vi x7]] ⟨.bool (onF x0 x1 x2 x3 x4 x5 x6 x7),[]⟩:=(FC x0 x1 x2 x3 x4 x5 x6 x7).choose_spec
theorem rY (x0 x1 x2 x3 x4 x5 x6 x7:Int): ∃r:Int,Ev E 201 [.agg [vi x0,vi x1,vi x2],.agg [vi x3,vi x4,vi x5],.agg [vi x6,vi x7]] ⟨vi r,[]⟩:=by
 have key:=Ev.bz (R:=fun res=> ∃r:Int,res=⟨vi r,[]⟩) Ow (Ox [.agg [vi x0,vi x1,vi x2],.agg [vi x3,vi x4,vi x5],.agg [vi x6,vi x7]]) rfl ?_
 · obtain⟨res,h1,r,rfl⟩:=key
   exact⟨r,h1⟩
 (conv=>whnf);repeat' ((first| intro g| refine ah.mk _ (nu _ _) ?_| refine ah.mk _ (FB _ _ _ _ _) ?_| refine ah.mk _ (my _ _ _ _ _ _ _ _ _) ?_| refine st ?_| (first| refine b1 ?_ ?_| refine b2 ?_ ?_| refine Br.mk ?_ ?_) <;>intro hc| exact rfl) <;>conv=>whnf)
 all_goals exact⟨_,rfl⟩
noncomputable def za (x0 x1 x2 x3 x4 x5 x6 x7:Int):Int:=(rY x0 x1 x2 x3 x4 x5 x6 x7).choose
theorem Be (x0 x1 x2 x3 x4 x5 x6 x7:Int):Ev E 201 [.agg [vi x0,vi x1,vi x2],.agg [vi x3,vi x4,vi x5],.agg [vi x6,vi x7]] ⟨vi (za x0 x1 x2 x3 x4 x5 x6 x7),[]⟩:=(rY x0 x1 x2 x3 x4 x5 x6 x7).choose_spec
theorem ug (x0 x1 x2 x3 x4 x5 x6 x7 x8 x9 Kc Kd Ke Kf:Int): ∃r:Bool,Ev E 202 [.agg [vi x0,vi x1,vi x2,vi x3,vi x4,vi x5,vi x6],.agg [vi x7,vi x8,vi x9,vi Kc,vi Kd,vi Ke,vi Kf]] ⟨.bool r,[]⟩:=by
 have key:=Ev.bz (R:=fun res=> ∃r:Bool,res=⟨.bool r,[]⟩) Oy (Oz [.agg [vi x0,vi x1,vi x2,vi x3,vi x4,vi x5,vi x6],.agg [vi x7,vi x8,vi x9,vi Kc,vi Kd,vi Ke,vi Kf]]) rfl ?_
 · obtain⟨res,h1,r,rfl⟩:=key
   exact⟨r,h1⟩
 (conv=>whnf);repeat' ((first| intro g| refine ah.mk _ (Bd _ _ _ _) ?_| refine ah.mk _ (my _ _ _ _ _ _ _ _ _) ?_| refine st ?_| (first| refine b1 ?_ ?_| refine b2 ?_ ?_| refine Br.mk ?_ ?_) <;>intro hc| exact rfl) <;>conv=>whnf)
 all_goals exact⟨_,rfl⟩
noncomputable def Ix (x0 x1 x2 x3 x4 x5 x6 x7 x8 x9 Kc Kd Ke Kf:Int):Bool:=(ug x0 x1 x2 x3 x4 x5 x6 x7 x8 x9 Kc Kd Ke Kf).choose
theorem wC (x0 x1 x2 x3 x4 x5 x6 x7 x8 x9 Kc Kd Ke Kf:Int):Ev E 202 [.agg [vi x0,vi x1,vi x2,vi x3,vi x4,vi x5,vi x6],.agg [vi x7,vi x8,vi x9,vi Kc,vi Kd,vi Ke,vi Kf]] ⟨.bool (Ix x0 x1 x2 x3 x4 x5 x6 x7 x8 x9 Kc Kd Ke Kf),[]⟩:=(ug x0 x1 x2 x3 x4 x5 x6 x7 x8 x9 Kc Kd Ke Kf).choose_spec
end Go.AM
set_option maxHeartbeats 8000000
namespace Go.AM
theorem cj {α:Type} {g:α→V} {f:Nat} {args:List V} (h: ∃res,Ev E f args res∧ ∃a,res=⟨g a,[]⟩): ∃a,Ev E f args ⟨g a,[]⟩:=by
 obtain⟨_,h,a,rfl⟩:=h
 exact⟨a,h⟩
theorem YK {α β:Type} {P:α→β→Prop} (h: ∀a,∃b,P a b): ∃F:α→β,∀a,P a (F a):=⟨fun a=> (h a).choose,fun a=> (h a).choose_spec⟩
theorem sk2 {α α2 β:Type} {P:α→α2→β→Prop} (h: ∀a b,∃c,P a b c): ∃F:α→α2→β,∀a b,P a b (F a b):=⟨fun a b=> (h a b).choose,fun a b=> (h a b).choose_spec⟩
theorem sk3 {α α2 α3 β:Type} {P:α→α2→α3→β→Prop} (h: ∀a b c,∃d,P a b c d): ∃F:α→α2→α3→β,∀a b c,P a b c (F a b c):=⟨fun a b c=> (h a b c).choose,fun a b c=> (h a b c).choose_spec⟩
theorem sk4 {α α2 α3 α4 β:Type} {P:α→α2→α3→α4→β→Prop} (h: ∀a b c d,∃e,P a b c d e): ∃F:α→α2→α3→α4→β,∀a b c d,P a b c d (F a b c d):=⟨fun a b c d=> (h a b c d).choose,fun a b c d=> (h a b c d).choose_spec⟩
theorem sk5 {α α2 α3 α4 α5 β:Type} {P:α→α2→α3→α4→α5→β→Prop} (h: ∀a b c d e,∃x,P a b c d e x): ∃F:α→α2→α3→α4→α5→β,∀a b c d e,P a b c d e (F a b c d e):=⟨fun a b c d e=> (h a b c d e).choose,fun a b c d e=> (h a b c d e).choose_spec⟩
theorem Bf: ∃F:Pt→Bool,∀p:Pt,Ev E 575 [p.v] ⟨.bool (F p),[]⟩:=YK fun p=>cj (Ev.bz Kg (Kh _) rfl (by
 (conv=>whnf);repeat' ((first| intro g| refine ah.mk _ (lh _ _ _) ?_| refine st ?_| (first| refine b1 ?_ ?_| refine b2 ?_ ?_| refine Br.mk ?_ ?_) <;>intro hc| exact rfl) <;>conv=>whnf)
 all_goals exact⟨_,rfl⟩))
theorem oL: ∃F:Pt→Bool,∀p:Pt,Ev E 576 [p.v] ⟨.bool (F p),[]⟩:=YK fun p=>cj (Ev.bz OA (OB _) rfl (by
 (conv=>whnf);repeat' ((first| intro g| refine ah.mk _ (lh _ _ _) ?_| refine st ?_| (first| refine b1 ?_ ?_| refine b2 ?_ ?_| refine Br.mk ?_ ?_) <;>intro hc| exact rfl) <;>conv=>whnf)
 all_goals exact⟨_,rfl⟩))
theorem nv (a b:Pt):Ev E 161 [a.v,b.v] ⟨(Pt.mk (c9 (a.x - b.x)) (c9 (a.y - b.y))).v,[]⟩:=by
 refine Ev.aT FD (FE _) rfl ?_
 (conv=>whnf);repeat' ((first| intro g| refine st ?_| (first| refine b1 ?_ ?_| refine b2 ?_ ?_| refine Br.mk ?_ ?_) <;>intro hc| exact rfl) <;>conv=>whnf)
theorem DA (a b:Pt):Ev E 542 [a.v,b.v] ⟨vi (c9 (c9 (a.x*b.y) - c9 (a.y*b.x))),[]⟩:=by
 refine Ev.aT OC (OD _) rfl ?_
 (conv=>whnf);repeat' ((first| intro g| refine st ?_| (first| refine b1 ?_ ?_| refine b2 ?_ ?_| refine Br.mk ?_ ?_) <;>intro hc| exact rfl) <;>conv=>whnf)
theorem q8: ∃F:Pt→Pt→Pt→Int,∀a b p:Pt,Ev E 577 [a.v,b.v,p.v] ⟨vi (F a b p),[]⟩:=sk3 fun a b p=>cj (g:=vi) (Ev.bz OE (OF _) rfl (by
 obtain⟨B,hB⟩:=oL
 (conv=>whnf);repeat' ((first| intro g| refine ah.mk _ (hB _) ?_| refine ah.mk _ (nv b a) ?_| refine ah.mk _ (nv p a) ?_| refine ah.mk _ (uf _ _ _ _) ?_| refine st ?_| (first| refine b1 ?_ ?_| refine b2 ?_ ?_| refine Br.mk ?_ ?_) <;>intro hc| exact rfl) <;>conv=>whnf)
 all_goals exact⟨_,rfl⟩))
theorem xD: ∃F:Pt→Pt→Pt→Bool,∀a b p:Pt,Ev E 578 [a.v,b.v,p.v] ⟨.bool (F a b p),[]⟩:=sk3 fun a b p=>cj (Ev.bz OG (OH _) rfl (by
 obtain⟨B,hB⟩:=oL
 obtain⟨S,hS⟩:=q8
 (conv=>whnf);repeat' ((first| intro g| refine ah.mk _ (hB _) ?_| refine ah.mk _ (hS _ _ _) ?_| refine ah.mk _ (lh _ _ _) ?_| refine st ?_| (first| refine b1 ?_ ?_| refine b2 ?_ ?_| refine Br.mk ?_ ?_) <;>intro hc| exact rfl) <;>conv=>whnf)
 all_goals exact⟨_,rfl⟩))
theorem wD: ∃F:Pt→Pt→Bool,∀a b:Pt,Ev E 580 [a.v,b.v] ⟨.bool (F a b),[]⟩:=sk2 fun a b=>cj (Ev.bz OI (OJ _) rfl (by
 (conv=>whnf);repeat' ((first| intro g| refine st ?_| (first| refine b1 ?_ ?_| refine b2 ?_ ?_| refine Br.mk ?_ ?_) <;>intro hc| exact rfl) <;>conv=>whnf)
 all_goals exact⟨_,rfl⟩))
theorem FF: ∃F:Pt→Pt→Pt×Pt,∀a b:Pt,Ev E 579 [a.v,b.v] ⟨.tuple [(F a b).1.v,(F a b).2.v],[]⟩:=sk2 fun a b=>cj (α:=Pt×Pt) (g:=fun x=> .tuple [x.1.v,x.2.v]) (Ev.bz OK (OL _) rfl (by
 obtain⟨L,hL⟩:=wD
 (conv=>whnf);repeat' ((first| intro g| refine ah.mk _ (hL _ _) ?_| refine st ?_| (first| refine b1 ?_ ?_| refine b2 ?_ ?_| refine Br.mk ?_ ?_) <;>intro hc| exact rfl) <;>conv=>whnf)
 all_goals first| exact⟨(a,b),rfl⟩ | exact⟨(b,a),rfl⟩))
end Go.AM
namespace Go.AM
structure xE where
 x:Int
 y:Int
 z:Int
def xE.v (s:xE):V:= .agg [vi s.x,vi s.y,vi s.z]
structure dZ where
 id:Int
 lK:List xE
 left:Int
 right:Int
def dZ.v (t:dZ):V:= .agg [vi t.id,.lit 3 (t.lK.map xE.v),vi t.left,vi t.right]
theorem xE.bP (l:List xE):V.aq (l.map xE.v)=true:=AM.bP (fun _=>rfl) l
theorem dZ.bP (l:List dZ):V.aq (l.map dZ.v)=true:=AM.bP (fun _=>rfl) l
def OM (ts:List dZ):Prop:=ts.length< 1000∧ ∀t ∈ ts,t.lK.length≤5
theorem DB {es:List Edge} {n:Nat} (he:gH es n) (hn:n< 1000): ∃res,Ev E 164 [.lit 4 (es.map Edge.v)] res∧ ∃ts:List dZ,OM ts∧res=⟨.own 4 (ts.map dZ.v),[]⟩:=by
 refine Ev.bz ON (OO _) rfl ?_
 have te:=he.1
 (conv=>whnf);repeat' ((first| intro g| refine st ?_| (first| refine b1 ?_ ?_| refine b2 ?_ ?_| refine Br.mk ?_ ?_) <;>intro hc| exact rfl) <;>conv=>whnf)
 refine aI.by (fun ((k,ts,g):Nat×List dZ×Nat)=> ⟨[(0,.lit 4 (es.map Edge.v)),(3,.sl 65 g 0 ts.length),(4,aC k)],[(65,⟨g,4,true,false,some (ts.map dZ.v)⟩)]⟩)
   (fun (k,ts,g)=>k≤es.length∧ts.length=k∧ ∀t ∈ ts,t.lK.length≤5) (fun (k,_)=>es.length - k) (0,[],g) (by(refine⟨?_,?_⟩ <;>repeat' (first| exact True.intro| refine ai ?_| refine And.intro ?_ ?_))) ⟨by simp,by simp,by simp⟩ ?_
 rintro⟨k,ts,g⟩ ⟨hk,ht,ZD⟩
 try dsimp only at hk ht ZD
 by_cases bp:k<es.length
 · obtain⟨e,wE⟩: ∃e,es[k]? =some e:=⟨_,aD bp⟩
   have No:=he.2 e (List.mem_of_getElem? wE)
   have YL:=No.1
   have Bg:=No.2
   (conv=>whnf);repeat' ((first| intro g| refine aN.mk _ (al wE rfl) ?_| refine st ?_| (first| refine b1 ?_ ?_| refine b2 ?_ ?_| refine Br.mk ?_ ?_) <;>intro hc| exact rfl) <;>conv=>whnf)
   rename_i g5
   refine aI.by (fun ((i,ss,og):Nat×List xE×Option Nat)=> ⟨[(0,.lit 4 (es.map Edge.v)),(3,.sl 65 g5 0 ts.length),(4,aC k),(5,.ptr 96 g 0 0),(6,aC i)],
     match og with
     | none=> [(65,⟨g5,4,true,false,some (ts.map dZ.v)⟩),(96,⟨g,4,false,false,some [.agg [vi e.id,.nils,vi e.left,vi e.right]]⟩)]
     | some g9=> [(65,⟨g5,4,true,false,some (ts.map dZ.v)⟩),(96,⟨g,4,false,false,some [.agg [vi e.id,.sl 99 g9 0 ss.length,vi e.left,vi e.right]]⟩),(99,⟨g9,3,true,false,some (ss.map xE.v)⟩)]⟩)
     (fun (i,ss,og)=>i≤e.line.length∧ss.length=i∧(og=none→ss=[])) (fun (i,_)=>e.line.length - i) (0,[],none) ?_ ⟨by simp,by simp,by simp⟩ ?_
   · (refine⟨?_,?_⟩ <;>repeat' (first| exact True.intro| refine ai ?_| refine And.intro ?_ ?_))
   rintro⟨i,ss,og⟩ ⟨hi,hs,Cw⟩
   try dsimp only at hi hs Cw
   by_cases Cx:i<e.line.length
   · obtain⟨x,hx⟩: ∃x,e.line[i]? =some x:=⟨_,aD Cx⟩
     have sO:Ev E 199 [x.v] ⟨.agg [vi x.x,vi x.y,vi 1],[]⟩:=nu x.x x.y
     cases og with
     | none=>
       obtain rfl:=Cw rfl
       (conv=>whnf);repeat' ((first| intro g| refine aN.mk _ (al wE rfl) ?_| refine aN.mk _ (al hx rfl) ?_| refine ah.mk _ (sO) ?_| refine st ?_| (first| refine b1 ?_ ?_| refine b2 ?_ ?_| refine Br.mk ?_ ?_) <;>intro hc| exact rfl) <;>conv=>whnf)
       exact aE.mk (i+1,[⟨x.x,x.y,1⟩],some g) (by first| omega| (dsimp only;omega)) ⟨(by first| omega| (dsimp only;omega)),by simp at hs ⊢;omega,by simp⟩ (by(refine⟨?_,?_⟩ <;>repeat' (first| exact True.intro| refine ai ?_| refine And.intro ?_ ?_)))
     | some g9=>
       (conv=>whnf);repeat' ((first| intro g| refine aN.mk _ (al wE rfl) ?_| refine aN.mk _ (al hx rfl) ?_| refine ah.mk _ (sO) ?_| refine st ?_| (first| refine b1 ?_ ?_| refine b2 ?_ ?_| refine Br.mk ?_ ?_) <;>intro hc| exact rfl) <;>conv=>whnf)
       exact aE.mk (i+1,ss++[⟨x.x,x.y,1⟩],some g) (by first| omega| (dsimp only;omega)) ⟨(by first| omega| (dsimp only;omega)),by simp;omega,by simp⟩ (by(refine⟨?_,?_⟩ <;>repeat' (first| exact True.intro| refine ai ?_| refine And.intro ?_ ?_)))
   · cases og with
     | none=>
       obtain rfl:=Cw rfl
       simp at hs
       omega
     | some g9=>
       (conv=>whnf);repeat' ((first| intro g| refine aN.mk _ (al wE rfl) ?_| refine st ?_| (first| refine b1 ?_ ?_| refine b2 ?_ ?_| refine Br.mk ?_ ?_) <;>intro hc| exact rfl) <;>conv=>whnf)
       refine aE.mk (k+1,ts++[⟨e.id,ss,e.left,e.right⟩],g) (by first| omega| (dsimp only;omega)) ⟨(by first| omega| (dsimp only;omega)),by simp;omega,?_⟩ (by(refine⟨?_,?_⟩ <;>repeat' (first| exact True.intro| refine ai ?_| refine And.intro ?_ ?_)))
       intro t h
       rcases List.mem_append.1 h with h| h
       · exact ZD t h
       · have:t=⟨e.id,ss,e.left,e.right⟩:=by simpa using h
         subst this;dsimp only;omega
 · (conv=>whnf);repeat' ((first| intro g| refine st ?_| (first| refine b1 ?_ ?_| refine b2 ?_ ?_| refine Br.mk ?_ ?_) <;>intro hc| exact rfl) <;>conv=>whnf)
   exact⟨ts,⟨by omega,ZD⟩,rfl⟩
end Go.AM
namespace Go.AM
theorem xF {ts:List dZ} (ht:OM ts) (p:Pt): ∃ (r:Int) (b:Bool),Ev E 163 [.lit 4 (ts.map dZ.v),p.v] ⟨.tuple [vi r,.bool b],[]⟩:=by
 have key:=Ev.bz (R:=fun res=> ∃ (r:Int) (b:Bool),res=⟨.tuple [vi r,.bool b],[]⟩) OP (OQ [.lit 4 (ts.map dZ.v),p.v]) rfl ?_
 · obtain⟨res,h1,r,b,rfl⟩:=key
   exact⟨r,b,h1⟩
 have sO:Ev E 199 [p.v] ⟨.agg [vi p.x,vi p.y,vi 1],[]⟩:=nu p.x p.y
 have htl:=ht.1
 (conv=>whnf);repeat' ((first| intro g| refine ah.mk _ (sO) ?_| refine ah.mk _ (ue _ _ _) ?_| refine st ?_| (first| refine b1 ?_ ?_| refine b2 ?_ ?_| refine Br.mk ?_ ?_) <;>intro hc| exact rfl) <;>conv=>whnf)
 · exact⟨_,_,rfl⟩
 refine aI.by (fun (k:Nat)=> ⟨[(0,.lit 4 (ts.map dZ.v)),(3,.ptr 64 g 0 0),(6,aC k)],[(64,⟨g,2,false,false,some [p.v]⟩)]⟩)
   (fun k=>k≤ts.length) (fun k=>ts.length - k) 0 (by(refine⟨?_,?_⟩ <;>repeat' (first| exact True.intro| refine ai ?_| refine And.intro ?_ ?_))) (by first| omega| (dsimp only;omega)) ?_
 intro k hk
 by_cases bp:k<ts.length
 · obtain⟨t,he⟩: ∃t,ts[k]? =some t:=⟨_,aD bp⟩
   have htf:=ht.2 t (List.mem_of_getElem? he)
   (conv=>whnf);repeat' ((first| intro g| refine st ?_| (first| refine b1 ?_ ?_| refine b2 ?_ ?_| refine Br.mk ?_ ?_) <;>intro hc| exact rfl) <;>conv=>whnf)
   refine aI.by (fun (i:Nat)=> ⟨[(0,.lit 4 (ts.map dZ.v)),(3,.ptr 64 g 0 0),(6,aC k),(7,aC i)],[(64,⟨g,2,false,false,some [p.v]⟩)]⟩)
     (fun i=>i≤t.lK.length) (fun i=>t.lK.length - i) 0 (by(refine⟨?_,?_⟩ <;>repeat' (first| exact True.intro| refine ai ?_| refine And.intro ?_ ?_))) (by first| omega| (dsimp only;omega)) ?_
   intro i hi
   by_cases Cx:i<t.lK.length
   · obtain⟨s,hs⟩: ∃s,t.lK[i]? =some s:=⟨_,aD Cx⟩
     have hb:Ev E 198 [s.v] ⟨.bool (y9 s.x s.y s.z),[]⟩:=ue s.x s.y s.z
     (conv=>whnf);repeat' ((first| intro g| refine aN.mk _ (al he rfl) ?_| refine aN.mk _ (al hs rfl) ?_| refine ah.mk _ (hb) ?_| refine st ?_| (first| refine b1 ?_ ?_| refine b2 ?_ ?_| refine Br.mk ?_ ?_) <;>intro hc| exact rfl) <;>conv=>whnf)
     · exact⟨_,_,rfl⟩
     · exact aE.mk (i+1) (by first| omega| (dsimp only;omega)) (by first| omega| (dsimp only;omega)) (by(refine⟨?_,?_⟩ <;>repeat' (first| exact True.intro| refine ai ?_| refine And.intro ?_ ?_)))
   · (conv=>whnf);repeat' ((first| intro g| refine aN.mk _ (al he rfl) ?_| refine st ?_| (first| refine b1 ?_ ?_| refine b2 ?_ ?_| refine Br.mk ?_ ?_) <;>intro hc| exact rfl) <;>conv=>whnf)
     exact aE.mk (k+1) (by first| omega| (dsimp only;omega)) (by first| omega| (dsimp only;omega)) (by(refine⟨?_,?_⟩ <;>repeat' (first| exact True.intro| refine ai ?_| refine And.intro ?_ ?_)))
 · (conv =>whnf);repeat' ((first| intro g| refine st ?_| (first| refine b1 ?_ ?_| refine b2 ?_ ?_| refine Br.mk ?_ ?_) <;>intro hc| exact rfl) <;>conv=>whnf)
   rename_i g3
   refine aI.by (fun ((k,found,a1,a2,a3,a4,a5,a6,a7):Nat×Bool×Int×Int×Int×Int×Int×Int×Int)=> ⟨[(0,.lit 4 (ts.map dZ.v)),(3,.ptr 64 g3 0 0),(8,.bool found),(9,.ptr 160 g 0 0),(10,aC k)],[(64,⟨g3,2,false,false,some [p.v]⟩),(160,⟨g,7,false,false,some [.agg [vi a1,vi a2,vi a3,vi a4,vi a5,vi a6,vi a7]]⟩)]⟩)
     (fun (k,_)=>k≤ts.length) (fun (k,_)=>ts.length - k) (0,false,0,0,0,0,0,0,0) (by(refine⟨?_,?_⟩ <;>repeat' (first| exact True.intro| refine ai ?_| refine And.intro ?_ ?_))) (by first| omega| (dsimp only;omega)) ?_
   rintro⟨k,found,a1,a2,a3,a4,a5,a6,a7⟩ hk
   try dsimp only at hk
   by_cases bp:k<ts.length
   · obtain⟨t,he⟩: ∃t,ts[k]? =some t:=⟨_,aD bp⟩
     have htf:=ht.2 t (List.mem_of_getElem? he)
     (conv=>whnf);repeat' ((first| intro g| refine st ?_| (first| refine b1 ?_ ?_| refine b2 ?_ ?_| refine Br.mk ?_ ?_) <;>intro hc| exact rfl) <;>conv=>whnf)
     refine aI.by (fun ((j,found,a1,a2,a3,a4,a5,a6,a7):Nat×Bool×Int×Int×Int×Int×Int×Int×Int)=> ⟨[(0,.lit 4 (ts.map dZ.v)),(3,.ptr 64 g3 0 0),(8,.bool found),(9,.ptr 160 g 0 0),(10,aC k),(11,aC j)],[(64,⟨g3,2,false,false,some [p.v]⟩),(160,⟨g,7,false,false,some [.agg [vi a1,vi a2,vi a3,vi a4,vi a5,vi a6,vi a7]]⟩)]⟩)
       (fun (j,_)=>j≤t.lK.length) (fun (j,_)=>t.lK.length - j) (0,found,a1,a2,a3,a4,a5,a6,a7) (by(refine⟨?_,?_⟩ <;>repeat' (first| exact True.intro| refine ai ?_| refine And.intro ?_ ?_))) (by first| omega| (dsimp only;omega)) ?_
     rintro⟨j,found,a1,a2,a3,a4,a5,a6,a7⟩ hj
     try dsimp only at hj
     have e1:IntKind.i64.wrap ((j:Int)+1)=((j+1:Nat):Int):=(wrap64 (by omega) (by omega)).trans (by omega)
     by_cases YM:j+1 <t.lK.length
     · obtain⟨x,hx⟩: ∃s,t.lK[j]? =some s:=⟨_,aD (by omega)⟩
       obtain⟨y,hy⟩: ∃s,t.lK[j+1]? =some s:=⟨_,aD YM⟩
       have hon:Ev E 200 [x.v,y.v,p.v] ⟨.bool (onF x.x x.y x.z y.x y.y y.z p.x p.y),[]⟩:=Ov _ _ _ _ _ _ _ _
       have OR:Ev E 201 [x.v,y.v,p.v] ⟨vi (za x.x x.y x.z y.x y.y y.z p.x p.y),[]⟩:=Be _ _ _ _ _ _ _ _
       cases found
       · (conv=>whnf);repeat' ((first| intro g| refine aN.mk _ (al he rfl) ?_| refine aN.mk _ (al hx rfl) ?_| refine aN.mk _ (al hy e1) ?_| refine ah.mk _ (hon) ?_| refine ah.mk _ (OR) ?_| refine ah.mk _ (wC _ _ _ _ _ _ _ _ _ _ _ _ _ _) ?_| refine st ?_| (first| refine b1 ?_ ?_| refine b2 ?_ ?_| refine Br.mk ?_ ?_) <;>intro hc| exact rfl) <;>conv=>whnf)
         · exact⟨_,_,rfl⟩
         · exact aE.mk (j+1,true,y.x,y.y,y.z,x.x,x.y,x.z,t.left) (by first| omega| (dsimp only;omega)) (by first| omega| (dsimp only;omega)) (by(refine⟨?_,?_⟩ <;>repeat' (first| exact True.intro| refine ai ?_| refine And.intro ?_ ?_)))
         · exact aE.mk (j+1,true,x.x,x.y,x.z,y.x,y.y,y.z,t.right) (by first| omega| (dsimp only;omega)) (by first| omega| (dsimp only;omega)) (by(refine⟨?_,?_⟩ <;>repeat' (first| exact True.intro| refine ai ?_| refine And.intro ?_ ?_)))
         · exact aE.mk (j+1,false,a1,a2,a3,a4,a5,a6,a7) (by first| omega| (dsimp only;omega)) (by first| omega| (dsimp only;omega)) (by(refine⟨?_,?_⟩ <;>repeat' (first| exact True.intro| refine ai ?_| refine And.intro ?_ ?_)))
       · (conv=>whnf);repeat' ((first| intro g| refine aN.mk _ (al he rfl) ?_| refine aN.mk _ (al hx rfl) ?_| refine aN.mk _ (al hy e1) ?_| refine ah.mk _ (hon) ?_| refine ah.mk _ (OR) ?_| refine ah.mk _ (wC _ _ _ _ _ _ _ _ _ _ _ _ _ _) ?_| refine st ?_| (first| refine b1 ?_ ?_| refine b2 ?_ ?_| refine Br.mk ?_ ?_) <;>intro hc| exact rfl) <;>conv=>whnf)
         · exact⟨_,_,rfl⟩
         · exact aE.mk (j+1,true,y.x,y.y,y.z,x.x,x.y,x.z,t.left) (by first| omega| (dsimp only;omega)) (by first| omega| (dsimp only;omega)) (by(refine⟨?_,?_⟩ <;>repeat' (first| exact True.intro| refine ai ?_| refine And.intro ?_ ?_)))
         · exact aE.mk (j+1,true,a1,a2,a3,a4,a5,a6,a7) (by first| omega| (dsimp only;omega)) (by first| omega| (dsimp only;omega)) (by(refine⟨?_,?_⟩ <;>repeat' (first| exact True.intro| refine ai ?_| refine And.intro ?_ ?_)))
         · exact aE.mk (j+1,true,x.x,x.y,x.z,y.x,y.y,y.z,t.right) (by first| omega| (dsimp only;omega)) (by first| omega| (dsimp only;omega)) (by(refine⟨?_,?_⟩ <;>repeat' (first| exact True.intro| refine ai ?_| refine And.intro ?_ ?_)))
         · exact aE.mk (j+1,true,a1,a2,a3,a4,a5,a6,a7) (by first| omega| (dsimp only;omega)) (by first| omega| (dsimp only;omega)) (by(refine⟨?_,?_⟩ <;>repeat' (first| exact True.intro| refine ai ?_| refine And.intro ?_ ?_)))
         · exact aE.mk (j+1,true,a1,a2,a3,a4,a5,a6,a7) (by first| omega| (dsimp only;omega)) (by first| omega| (dsimp only;omega)) (by(refine⟨?_,?_⟩ <;>repeat' (first| exact True.intro| refine ai ?_| refine And.intro ?_ ?_)))
     · (conv=>whnf);repeat' ((first| intro g| refine aN.mk _ (al he rfl) ?_| refine st ?_| (first| refine b1 ?_ ?_| refine b2 ?_ ?_| refine Br.mk ?_ ?_) <;>intro hc| exact rfl) <;>conv=>whnf)
       exact aE.mk (k+1,found,a1,a2,a3,a4,a5,a6,a7) (by first| omega| (dsimp only;omega)) (by first| omega| (dsimp only;omega)) (by(refine⟨?_,?_⟩ <;>repeat' (first| exact True.intro| refine ai ?_| refine And.intro ?_ ?_)))
   · (conv=>whnf);repeat' ((first| intro g| refine st ?_| (first| refine b1 ?_ ?_| refine b2 ?_ ?_| refine Br.mk ?_ ?_) <;>intro hc| exact rfl) <;>conv=>whnf)
     exact⟨_,_,rfl⟩
end Go.AM
namespace Go.AM
theorem LA {es:List Edge} {n:Nat} (he:gH es n) (hn:n< 1000) (p:Pt): ∃ (r:Int) (b:Bool),Ev E 121 [.lit 4 (es.map Edge.v),p.v] ⟨.tuple [vi r,.bool b],[]⟩:=by
 have key:=Ev.bz (R:=fun res=> ∃ (r:Int) (b:Bool),res=⟨.tuple [vi r,.bool b],[]⟩) OS (OT [.lit 4 (es.map Edge.v),p.v]) rfl ?_
 · obtain⟨res,h1,r,b,rfl⟩:=key
   exact⟨r,b,h1⟩
 (conv=>whnf);repeat' ((first| intro g| refine st ?_| (first| refine b1 ?_ ?_| refine b2 ?_ ?_| refine Br.mk ?_ ?_) <;>intro hc| exact rfl) <;>conv=>whnf)
 refine ah.ex (DB he hn) ?_
 rintro _ ⟨ts,ht,rfl⟩
 obtain⟨r,b,hr⟩:=xF ht p
 (conv=>whnf);repeat' ((first| intro g| refine ah.mk _ (hr) ?_| refine st ?_| (first| refine b1 ?_ ?_| refine b2 ?_ ?_| refine Br.mk ?_ ?_) <;>intro hc| exact rfl) <;>conv=>whnf)
 exact⟨_,_,rfl⟩
theorem qd (m:bk) (hf:m.ba.length< 1000) (id:Int): ∃r:Int,Ev E 122 [m.v,vi id] ⟨vi r,[]⟩:=by
 have key:=Ev.bz (R:=fun res=> ∃r:Int,res=⟨vi r,[]⟩) OU (OV [m.v,vi id]) rfl ?_
 · obtain⟨res,h1,r,rfl⟩:=key
   exact⟨r,h1⟩
 (conv=>whnf);repeat' ((first| intro g| refine st ?_| (first| refine b1 ?_ ?_| refine b2 ?_ ?_| refine Br.mk ?_ ?_) <;>intro hc| exact rfl) <;>conv=>whnf)
 refine aI.by (fun (k:Nat)=> ⟨[(1,vi id),(2,.ptr 48 g 0 0),(5,aC k)],[(48,⟨g,4,false,false,some [m.v]⟩)]⟩)
   (fun k=>k≤m.ba.length) (fun k=>m.ba.length - k) 0 (by(refine⟨?_,?_⟩ <;>repeat' (first| exact True.intro| refine ai ?_| refine And.intro ?_ ?_))) (by first| omega| (dsimp only;omega)) ?_
 intro k hk
 by_cases bp:k<m.ba.length
 · obtain⟨f,hx⟩: ∃f,m.ba[k]? =some f:=⟨_,aD bp⟩
   (conv=>whnf);repeat' ((first| intro g| refine aN.mk _ (al hx rfl) ?_| refine st ?_| (first| refine b1 ?_ ?_| refine b2 ?_ ?_| refine Br.mk ?_ ?_) <;>intro hc| exact rfl) <;>conv=>whnf)
   · exact⟨_,rfl⟩
   · exact aE.mk (k+1) (by first| omega| (dsimp only;omega)) (by first| omega| (dsimp only;omega)) (by(refine⟨?_,?_⟩ <;>repeat' (first| exact True.intro| refine ai ?_| refine And.intro ?_ ?_)))
 · (conv=>whnf);repeat' ((first| intro g| refine st ?_| (first| refine b1 ?_ ?_| refine b2 ?_ ?_| refine Br.mk ?_ ?_) <;>intro hc| exact rfl) <;>conv=>whnf)
   exact⟨_,rfl⟩
end Go.AM
