/-
  Texts of the proof, joined by program: SFarA, SFarB, SFarC, SFarD. Own work.
-/
import Derived.Test.YtkdfnbahehdhmaaGreatData
import Derived.Test.YtkdfnbahehdhmaaGreatMa
import Derived.Test.YtkdfnbahehdhmaaGreatMb
set_option linter.unusedSimpArgs false
set_option linter.unusedVariables false
set_option maxRecDepth 20000
set_option maxHeartbeats 4000000
namespace Go.AM
theorem wj (x0:Int): ∃r:Int,Ev E 283 [vi x0] ⟨vi r,[]⟩:=by
 have key:=Ev.bT (R:=fun res=> ∃r:Int,res=⟨vi r,[]⟩) Qk (Ql [vi x0]) rfl ?_
 · obtain⟨res,h1,r,rfl⟩:=key
   exact⟨r,h1⟩
 (conv=>whnf);repeat' ((first| intro g| refine st ?_| (first| refine b1 ?_ ?_| refine b2 ?_ ?_| refine Br.mk ?_ ?_) <;>intro hc| exact rfl) <;>conv=>whnf)
 all_goals exact⟨_,rfl⟩
noncomputable def CP (x0:Int):Int:=(wj x0).choose
theorem FY (x0:Int):Ev E 283 [vi x0] ⟨vi (CP x0),[]⟩:=(wj x0).choose_spec
theorem wk (x0:Int): ∃r:Int,Ev E 285 [vi x0] ⟨.int .u64 r,[]⟩:=by
 have key:=Ev.bT (R:=fun res=> ∃r:Int,res=⟨.int .u64 r,[]⟩) Qo (Qp [vi x0]) rfl ?_
 · obtain⟨res,h1,r,rfl⟩:=key
   exact⟨r,h1⟩
 (conv=>whnf);repeat' ((first| intro g| refine st ?_| (first| refine b1 ?_ ?_| refine b2 ?_ ?_| refine Br.mk ?_ ?_) <;>intro hc| exact rfl) <;>conv=>whnf)
 all_goals exact⟨_,rfl⟩
noncomputable def wo (x0:Int):Int:=(wk x0).choose
theorem FZ (x0:Int):Ev E 285 [vi x0] ⟨.int .u64 (wo x0),[]⟩:=(wk x0).choose_spec
theorem pW (x0 x1:Int): ∃r:Int×Int,Ev E 284 [.int .u64 x0,.int .u64 x1] ⟨.agg [.int .u64 r.1,.int .u64 r.2],[]⟩:=by
 have key:=Ev.bT (R:=fun res=> ∃r:Int×Int,res=⟨.agg [.int .u64 r.1,.int .u64 r.2],[]⟩) Qm (Qn [.int .u64 x0,.int .u64 x1]) rfl ?_
 · obtain⟨res,h1,r,rfl⟩:=key
   exact⟨r,h1⟩
 (conv=>whnf);repeat' ((first| intro g| refine st ?_| (first| refine b1 ?_ ?_| refine b2 ?_ ?_| refine Br.mk ?_ ?_) <;>intro hc| exact rfl) <;>conv=>whnf)
 all_goals exact⟨⟨_,_⟩,rfl⟩
noncomputable def nW (x0 x1:Int):Int×Int:=(pW x0 x1).choose
theorem yL (x0 x1:Int):Ev E 284 [.int .u64 x0,.int .u64 x1] ⟨.agg [.int .u64 (nW x0 x1).1,.int .u64 (nW x0 x1).2],[]⟩:=(pW x0 x1).choose_spec
theorem pX (x0 x1 x2:Int): ∃r:Bool,Ev E 282 [vi x0,vi x1,vi x2] ⟨.bool r,[]⟩:=by
 have key:=Ev.bT (R:=fun res=> ∃r:Bool,res=⟨.bool r,[]⟩) PY (PZ [vi x0,vi x1,vi x2]) rfl ?_
 · obtain⟨res,h1,r,rfl⟩:=key
   exact⟨r,h1⟩
 (conv=>whnf);repeat' ((first| intro g| refine st ?_| (first| refine b1 ?_ ?_| refine b2 ?_ ?_| refine Br.mk ?_ ?_) <;>intro hc| exact rfl) <;>conv=>whnf)
 all_goals exact⟨_,rfl⟩
noncomputable def CQ (x0 x1 x2:Int):Bool:=(pX x0 x1 x2).choose
theorem yM (x0 x1 x2:Int):Ev E 282 [vi x0,vi x1,vi x2] ⟨.bool (CQ x0 x1 x2),[]⟩:=(pX x0 x1 x2).choose_spec
theorem z0 (x0 x1 x2:Int): ∃r:Bool,Ev E 270 [.agg [vi x0,vi x1,vi x2]] ⟨.bool r,[]⟩:=by
 have key:=Ev.bT (R:=fun res=> ∃r:Bool,res=⟨.bool r,[]⟩) QA (QB [.agg [vi x0,vi x1,vi x2]]) rfl ?_
 · obtain⟨res,h1,r,rfl⟩:=key
   exact⟨r,h1⟩
 (conv=>whnf);repeat' ((first| intro g| refine ak.mk _ (yM _ _ _) ?_| refine st ?_| (first| refine b1 ?_ ?_| refine b2 ?_ ?_| refine Br.mk ?_ ?_) <;>intro hc| exact rfl) <;>conv=>whnf)
 all_goals exact⟨_,rfl⟩
noncomputable def Vt (x0 x1 x2:Int):Bool:=(z0 x0 x1 x2).choose
theorem K1 (x0 x1 x2:Int):Ev E 270 [.agg [vi x0,vi x1,vi x2]] ⟨.bool (Vt x0 x1 x2),[]⟩:=(z0 x0 x1 x2).choose_spec
theorem pY (x0 x1 x2:Int): ∃r:Bool,Ev E 198 [.agg [vi x0,vi x1,vi x2]] ⟨.bool r,[]⟩:=by
 have key:=Ev.bT (R:=fun res=> ∃r:Bool,res=⟨.bool r,[]⟩) PN (PO [.agg [vi x0,vi x1,vi x2]]) rfl ?_
 · obtain⟨res,h1,r,rfl⟩:=key
   exact⟨r,h1⟩
 (conv=>whnf);repeat' ((first| intro g| refine st ?_| (first| refine b1 ?_ ?_| refine b2 ?_ ?_| refine Br.mk ?_ ?_) <;>intro hc| exact rfl) <;>conv=>whnf)
 all_goals exact⟨_,rfl⟩
noncomputable def wq (x0 x1 x2:Int):Bool:=(pY x0 x1 x2).choose
theorem rJ (x0 x1 x2:Int):Ev E 198 [.agg [vi x0,vi x1,vi x2]] ⟨.bool (wq x0 x1 x2),[]⟩:=(pY x0 x1 x2).choose_spec
theorem lO (x y:Int):Ev E 199 [.agg [vi x,vi y]] ⟨.agg [vi x,vi y,vi 1],[]⟩:=by
 refine Ev.bY PQ (PR _) rfl ?_
 (conv=>whnf);repeat' ((first| intro g| refine st ?_| (first| refine b1 ?_ ?_| refine b2 ?_ ?_| refine Br.mk ?_ ?_) <;>intro hc| exact rfl) <;>conv=>whnf)
theorem tN (x0 x1 x2 x3:Int): ∃r:Int,Ev E 271 [vi x0,vi x1,vi x2,vi x3] ⟨vi r,[]⟩:=by
 have key:=Ev.bT (R:=fun res=> ∃r:Int,res=⟨vi r,[]⟩) P0 (P1 [vi x0,vi x1,vi x2,vi x3]) rfl ?_
 · obtain⟨res,h1,r,rfl⟩:=key
   exact⟨r,h1⟩
 (conv=>whnf);repeat' ((first| intro g| refine ak.mk _ (FY _) ?_| refine ak.mk _ (FZ _) ?_| refine ak.mk _ (yL _ _) ?_| refine st ?_| (first| refine b1 ?_ ?_| refine b2 ?_ ?_| refine Br.mk ?_ ?_) <;>intro hc| exact rfl) <;>conv=>whnf)
 · exact⟨_,rfl⟩
 rename_i Vu
 generalize hu:nW (wo x0) (wo x1)=u
 generalize hv:nW (wo x2) (wo x3)=v
 obtain⟨u0,u1⟩:=u
 obtain⟨v0,v1⟩:=v
 generalize hs:IntKind.i64.wrap (CP x0*CP x1)=s
 refine a9.by (fun (k:Nat)=> ⟨[(9,vi s),(11,.ptr 192 Vu 0 0),(12,.ptr 208 g 0 0),(13,aM k)],[(192,⟨Vu,2,false,false,some [.agg [.int .u64 u0,.int .u64 u1]]⟩),(208,⟨g,2,false,false,some [.agg [.int .u64 v0,.int .u64 v1]]⟩)]⟩)
   (fun k=>k≤2) (fun k=>2 - k) 0 (by(refine⟨?_,?_⟩ <;>repeat' (first| exact True.intro| refine ai ?_| refine And.intro ?_ ?_))) (by first| omega| (dsimp only;omega)) ?_
 intro k hk
 rcases(by omega:k=0∨k=1∨k=2) with rfl| rfl| rfl
 · (conv=>whnf);repeat' ((first| intro g| refine st ?_| (first| refine b1 ?_ ?_| refine b2 ?_ ?_| refine Br.mk ?_ ?_) <;>intro hc| exact rfl) <;>conv=>whnf)
   all_goals first| exact⟨_,rfl⟩ | exact br.mk 1 (by first| omega| (dsimp only;omega)) (by first| omega| (dsimp only;omega)) (by(refine⟨?_,?_⟩ <;>repeat' (first| exact True.intro| refine ai ?_| refine And.intro ?_ ?_)))
 · (conv=>whnf);repeat' ((first| intro g| refine st ?_| (first| refine b1 ?_ ?_| refine b2 ?_ ?_| refine Br.mk ?_ ?_) <;>intro hc| exact rfl) <;>conv=>whnf)
   all_goals first| exact⟨_,rfl⟩ | exact br.mk 2 (by first| omega| (dsimp only;omega)) (by first| omega| (dsimp only;omega)) (by(refine⟨?_,?_⟩ <;>repeat' (first| exact True.intro| refine ai ?_| refine And.intro ?_ ?_)))
 · (conv=>whnf);repeat' ((first| intro g| refine st ?_| (first| refine b1 ?_ ?_| refine b2 ?_ ?_| refine Br.mk ?_ ?_) <;>intro hc| exact rfl) <;>conv=>whnf)
   exact⟨_,rfl⟩
noncomputable def K2 (x0 x1 x2 x3:Int):Int:=(tN x0 x1 x2 x3).choose
theorem wu (x0 x1 x2 x3:Int):Ev E 271 [vi x0,vi x1,vi x2,vi x3] ⟨vi (K2 x0 x1 x2 x3),[]⟩:=(tN x0 x1 x2 x3).choose_spec
theorem z4 (x0 x1 x2 x3:Int): ∃r:Int,Ev E 238 [.agg [vi x0,vi x1],.agg [vi x2,vi x3]] ⟨vi r,[]⟩:=by
 have key:=Ev.bT (R:=fun res=> ∃r:Int,res=⟨vi r,[]⟩) Qi (Qj [.agg [vi x0,vi x1],.agg [vi x2,vi x3]]) rfl ?_
 · obtain⟨res,h1,r,rfl⟩:=key
   exact⟨r,h1⟩
 (conv=>whnf);repeat' ((first| intro g| refine ak.mk _ (wu _ _ _ _) ?_| refine st ?_| (first| refine b1 ?_ ?_| refine b2 ?_ ?_| refine Br.mk ?_ ?_) <;>intro hc| exact rfl) <;>conv=>whnf)
 all_goals exact⟨_,rfl⟩
noncomputable def Vv (x0 x1 x2 x3:Int):Int:=(z4 x0 x1 x2 x3).choose
theorem yN (x0 x1 x2 x3:Int):Ev E 238 [.agg [vi x0,vi x1],.agg [vi x2,vi x3]] ⟨vi (Vv x0 x1 x2 x3),[]⟩:=(z4 x0 x1 x2 x3).choose_spec
theorem tO (x0 x1 x2 x3 x4:Int): ∃r:Int,Ev E 236 [vi x0,.agg [vi x1,vi x2],.agg [vi x3,vi x4]] ⟨vi r,[]⟩:=by
 have key:=Ev.bT (R:=fun res=> ∃r:Int,res=⟨vi r,[]⟩) Qe (Qf [vi x0,.agg [vi x1,vi x2],.agg [vi x3,vi x4]]) rfl ?_
 · obtain⟨res,h1,r,rfl⟩:=key
   exact⟨r,h1⟩
 (conv=>whnf);repeat' ((first| intro g| refine ak.mk _ (yN _ _ _ _) ?_| refine st ?_| (first| refine b1 ?_ ?_| refine b2 ?_ ?_| refine Br.mk ?_ ?_) <;>intro hc| exact rfl) <;>conv=>whnf)
 all_goals exact⟨_,rfl⟩
noncomputable def K3 (x0 x1 x2 x3 x4:Int):Int:=(tO x0 x1 x2 x3 x4).choose
theorem CR (x0 x1 x2 x3 x4:Int):Ev E 236 [vi x0,.agg [vi x1,vi x2],.agg [vi x3,vi x4]] ⟨vi (K3 x0 x1 x2 x3 x4),[]⟩:=(tO x0 x1 x2 x3 x4).choose_spec
theorem tP (x0 x1 x2 x3 x4:Int): ∃r:Bool,Ev E 237 [.agg [vi x0,vi x1,vi x2],.agg [vi x3,vi x4]] ⟨.bool r,[]⟩:=by
 have key:=Ev.bT (R:=fun res=> ∃r:Bool,res=⟨.bool r,[]⟩) Qg (Qh [.agg [vi x0,vi x1,vi x2],.agg [vi x3,vi x4]]) rfl ?_
 · obtain⟨res,h1,r,rfl⟩:=key
   exact⟨r,h1⟩
 (conv=>whnf);repeat' ((first| intro g| refine ak.mk _ (yN _ _ _ _) ?_| refine st ?_| (first| refine b1 ?_ ?_| refine b2 ?_ ?_| refine Br.mk ?_ ?_) <;>intro hc| exact rfl) <;>conv=>whnf)
 all_goals exact⟨_,rfl⟩
noncomputable def K4 (x0 x1 x2 x3 x4:Int):Bool:=(tP x0 x1 x2 x3 x4).choose
theorem CS (x0 x1 x2 x3 x4:Int):Ev E 237 [.agg [vi x0,vi x1,vi x2],.agg [vi x3,vi x4]] ⟨.bool (K4 x0 x1 x2 x3 x4),[]⟩:=(tP x0 x1 x2 x3 x4).choose_spec
theorem nX (x0 x1 x2 x3 x4 x5 x6 x7 x8:Int): ∃r:Int,Ev E 235 [.agg [vi x0,vi x1,vi x2],.agg [vi x3,vi x4,vi x5],.agg [vi x6,vi x7,vi x8]] ⟨vi r,[]⟩:=by
 have key:=Ev.bT (R:=fun res=> ∃r:Int,res=⟨vi r,[]⟩) Qc (Qd [.agg [vi x0,vi x1,vi x2],.agg [vi x3,vi x4,vi x5],.agg [vi x6,vi x7,vi x8]]) rfl ?_
 · obtain⟨res,h1,r,rfl⟩:=key
   exact⟨r,h1⟩
 (conv=>whnf);repeat' ((first| intro g| refine ak.mk _ (K1 _ _ _) ?_| refine ak.mk _ (wu _ _ _ _) ?_| refine st ?_| (first| refine b1 ?_ ?_| refine b2 ?_ ?_| refine Br.mk ?_ ?_) <;>intro hc| exact rfl) <;>conv=>whnf)
 all_goals exact⟨_,rfl⟩
noncomputable def AW (x0 x1 x2 x3 x4 x5 x6 x7 x8:Int):Int:=(nX x0 x1 x2 x3 x4 x5 x6 x7 x8).choose
theorem kI (x0 x1 x2 x3 x4 x5 x6 x7 x8:Int):Ev E 235 [.agg [vi x0,vi x1,vi x2],.agg [vi x3,vi x4,vi x5],.agg [vi x6,vi x7,vi x8]] ⟨vi (AW x0 x1 x2 x3 x4 x5 x6 x7 x8),[]⟩:=(nX x0 x1 x2 x3 x4 x5 x6 x7 x8).choose_spec
theorem CT (x0 x1 x2 x3 x4 x5 x6 x7:Int): ∃r:Bool,Ev E 200 [.agg [vi x0,vi x1,vi x2],.agg [vi x3,vi x4,vi x5],.agg [vi x6,vi x7]] ⟨.bool r,[]⟩:=by
 have key:=Ev.bT (R:=fun res=> ∃r:Bool,res=⟨.bool r,[]⟩) PS (PT [.agg [vi x0,vi x1,vi x2],.agg [vi x3,vi x4,vi x5],.agg [vi x6,vi x7]]) rfl ?_
 · obtain⟨res,h1,r,rfl⟩:=key
   exact⟨r,h1⟩
 (conv=>whnf);repeat' ((first| intro g| refine ak.mk _ (lO _ _) ?_| refine ak.mk _ (kI _ _ _ _ _ _ _ _ _) ?_| refine ak.mk _ (CR _ _ _ _ _) ?_| refine st ?_| (first| refine b1 ?_ ?_| refine b2 ?_ ?_| refine Br.mk ?_ ?_) <;>intro hc| exact rfl) <;>conv=>whnf)
 all_goals exact⟨_,rfl⟩
noncomputable def Xz (x0 x1 x2 x3 x4 x5 x6 x7:Int):Bool:=(CT x0 x1 x2 x3 x4 x5 x6 x7).choose
theorem QR (x0 x1 x2 x3 x4 x5 x6 x7:Int):Ev E 200 [.agg [vi x0,vi x1,vi x2],.agg [vi x3,vi x4,vi x5],.agg [vi x6,vi x7]] ⟨.bool (Xz x0 x1 x2 x3 x4 x5 x6 x7),[]⟩:=(CT x0 x1 x2 x3 x4 x5 x6 x7).choose_spec
theorem pZ (x0 x1 x2 x3 x4 x5 x6 x7:Int): ∃r:Int,Ev E 201 [.agg [vi x0,vi x1,vi x2],.agg [vi x3,vi x4,vi x5],.agg [vi x6,vi x7]] ⟨vi r,[]⟩:=by
 have key:=Ev.bT (R:=fun res=> ∃r:Int,res=⟨vi r,[]⟩) PU (PV [.agg [vi x0,vi x1,vi x2],.agg [vi x3,vi x4,vi x5],.agg [vi x6,vi x7]]) rfl ?_
 · obtain⟨res,h1,r,rfl⟩:=key
   exact⟨r,h1⟩
 (conv=>whnf);repeat' ((first| intro g| refine ak.mk _ (lO _ _) ?_| refine ak.mk _ (CS _ _ _ _ _) ?_| refine ak.mk _ (kI _ _ _ _ _ _ _ _ _) ?_| refine st ?_| (first| refine b1 ?_ ?_| refine b2 ?_ ?_| refine Br.mk ?_ ?_) <;>intro hc| exact rfl) <;>conv=>whnf)
 all_goals exact⟨_,rfl⟩
noncomputable def wv (x0 x1 x2 x3 x4 x5 x6 x7:Int):Int:=(pZ x0 x1 x2 x3 x4 x5 x6 x7).choose
theorem yO (x0 x1 x2 x3 x4 x5 x6 x7:Int):Ev E 201 [.agg [vi x0,vi x1,vi x2],.agg [vi x3,vi x4,vi x5],.agg [vi x6,vi x7]] ⟨vi (wv x0 x1 x2 x3 x4 x5 x6 x7),[]⟩:=(pZ x0 x1 x2 x3 x4 x5 x6 x7).choose_spec
theorem rK (x0 x1 x2 x3 x4 x5 x6 x7 x8 x9 Hc Hd He Hf:Int): ∃r:Bool,Ev E 202 [.agg [vi x0,vi x1,vi x2,vi x3,vi x4,vi x5,vi x6],.agg [vi x7,vi x8,vi x9,vi Hc,vi Hd,vi He,vi Hf]] ⟨.bool r,[]⟩:=by
 have key:=Ev.bT (R:=fun res=> ∃r:Bool,res=⟨.bool r,[]⟩) PW (PX [.agg [vi x0,vi x1,vi x2,vi x3,vi x4,vi x5,vi x6],.agg [vi x7,vi x8,vi x9,vi Hc,vi Hd,vi He,vi Hf]]) rfl ?_
 · obtain⟨res,h1,r,rfl⟩:=key
   exact⟨r,h1⟩
 (conv=>whnf);repeat' ((first| intro g| refine ak.mk _ (yN _ _ _ _) ?_| refine ak.mk _ (kI _ _ _ _ _ _ _ _ _) ?_| refine st ?_| (first| refine b1 ?_ ?_| refine b2 ?_ ?_| refine Br.mk ?_ ?_) <;>intro hc| exact rfl) <;>conv=>whnf)
 all_goals exact⟨_,rfl⟩
noncomputable def F1 (x0 x1 x2 x3 x4 x5 x6 x7 x8 x9 Hc Hd He Hf:Int):Bool:=(rK x0 x1 x2 x3 x4 x5 x6 x7 x8 x9 Hc Hd He Hf).choose
theorem tQ (x0 x1 x2 x3 x4 x5 x6 x7 x8 x9 Hc Hd He Hf:Int):Ev E 202 [.agg [vi x0,vi x1,vi x2,vi x3,vi x4,vi x5,vi x6],.agg [vi x7,vi x8,vi x9,vi Hc,vi Hd,vi He,vi Hf]] ⟨.bool (F1 x0 x1 x2 x3 x4 x5 x6 x7 x8 x9 Hc Hd He Hf),[]⟩:=(rK x0 x1 x2 x3 x4 x5 x6 x7 x8 x9 Hc Hd He Hf).choose_spec
end Go.AM
set_option maxRecDepth 20000
namespace Go.AM
structure vd where
 x:Int
 y:Int
 z:Int
def vd.v (s:vd):V:= .agg [vi s.x,vi s.y,vi s.z]
structure dw where
 id:Int
 j6:List vd
 left:Int
 right:Int
def dw.v (t:dw):V:= .agg [vi t.id,.lit 3 (t.j6.map vd.v),vi t.left,vi t.right]
theorem vd.bP (l:List vd):V.al (l.map vd.v)=true:=AM.bP (fun _=>rfl) l
theorem dw.bP (l:List dw):V.al (l.map dw.v)=true:=AM.bP (fun _=>rfl) l
def QS (ts:List dw):Prop:=ts.length< 1000∧ ∀t ∈ ts,t.j6.length≤5
set_option maxHeartbeats 4000000 in
theorem AX {es:List Edge} {n:Nat} (he:fB es n) (hn:n< 1000): ∃res,Ev E 164 [.lit 4 (es.map Edge.v)] res∧ ∃ts:List dw,QS ts∧res=⟨.own 4 (ts.map dw.v),[]⟩:=by
 refine Ev.bT Pn (Po _) rfl ?_
 have oV:=he.1
 (conv=>whnf);repeat' ((first| intro g| refine st ?_| (first| refine b1 ?_ ?_| refine b2 ?_ ?_| refine Br.mk ?_ ?_) <;>intro hc| exact rfl) <;>conv=>whnf)
 refine a9.by (fun ((k,ts,g):Nat×List dw×Nat)=> ⟨[(0,.lit 4 (es.map Edge.v)),(3,.sl 65 g 0 ts.length),(4,aM k)],[(65,⟨g,4,true,false,some (ts.map dw.v)⟩)]⟩)
   (fun (k,ts,g)=>k≤es.length∧ts.length=k∧ ∀t ∈ ts,t.j6.length≤5) (fun (k,_)=>es.length - k) (0,[],g) (by(refine⟨?_,?_⟩ <;>repeat' (first| exact True.intro| refine ai ?_| refine And.intro ?_ ?_))) ⟨by simp,by simp,by simp⟩ ?_
 rintro⟨k,ts,g⟩ ⟨hk,ht,Vw⟩
 try dsimp only at hk ht Vw
 by_cases bJ:k<es.length
 · obtain⟨e,tL⟩: ∃e,es[k]? =some e:=⟨_,bu bJ⟩
   have XA:=he.2.1 e (List.mem_of_getElem? tL)
   have Ug:=XA.1
   have zZ:=XA.2
   (conv=>whnf);repeat' ((first| intro g| refine bd.mk _ (aJ tL rfl) ?_| refine st ?_| (first| refine b1 ?_ ?_| refine b2 ?_ ?_| refine Br.mk ?_ ?_) <;>intro hc| exact rfl) <;>conv=>whnf)
   rename_i g5
   refine a9.by (fun ((i,ss,og):Nat×List vd×Option Nat)=> ⟨[(0,.lit 4 (es.map Edge.v)),(3,.sl 65 g5 0 ts.length),(4,aM k),(5,.ptr 96 g 0 0),(6,aM i)],
     match og with
     | none=> [(65,⟨g5,4,true,false,some (ts.map dw.v)⟩),(96,⟨g,4,false,false,some [.agg [vi e.id,.nils,vi e.left,vi e.right]]⟩)]
     | some g9=> [(65,⟨g5,4,true,false,some (ts.map dw.v)⟩),(96,⟨g,4,false,false,some [.agg [vi e.id,.sl 99 g9 0 ss.length,vi e.left,vi e.right]]⟩),(99,⟨g9,3,true,false,some (ss.map vd.v)⟩)]⟩)
     (fun (i,ss,og)=>i≤e.line.length∧ss.length=i∧(og=none→ss=[])) (fun (i,_)=>e.line.length - i) (0,[],none) ?_ ⟨by simp,by simp,by simp⟩ ?_
   · (refine⟨?_,?_⟩ <;>repeat' (first| exact True.intro| refine ai ?_| refine And.intro ?_ ?_))
   rintro⟨i,ss,og⟩ ⟨hi,hs,KU⟩
   try dsimp only at hi hs KU
   by_cases wx:i<e.line.length
   · obtain⟨x,hx⟩: ∃x,e.line[i]? =some x:=⟨_,bu wx⟩
     have sU:Ev E 199 [x.v] ⟨.agg [vi x.x,vi x.y,vi 1],[]⟩:=lO x.x x.y
     cases og with
     | none=>
       obtain rfl:=KU rfl
       (conv=>whnf);repeat' ((first| intro g| refine bd.mk _ (aJ tL rfl) ?_| refine bd.mk _ (aJ hx rfl) ?_| refine ak.mk _ (sU) ?_| refine st ?_| (first| refine b1 ?_ ?_| refine b2 ?_ ?_| refine Br.mk ?_ ?_) <;>intro hc| exact rfl) <;>conv=>whnf)
       exact br.mk (i+1,[⟨x.x,x.y,1⟩],some g) (by first| omega| (dsimp only;omega)) ⟨(by first| omega| (dsimp only;omega)),by simp at hs ⊢;omega,by simp⟩ (by(refine⟨?_,?_⟩ <;>repeat' (first| exact True.intro| refine ai ?_| refine And.intro ?_ ?_)))
     | some g9=>
       (conv=>whnf);repeat' ((first| intro g| refine bd.mk _ (aJ tL rfl) ?_| refine bd.mk _ (aJ hx rfl) ?_| refine ak.mk _ (sU) ?_| refine st ?_| (first| refine b1 ?_ ?_| refine b2 ?_ ?_| refine Br.mk ?_ ?_) <;>intro hc| exact rfl) <;>conv=>whnf)
       exact br.mk (i+1,ss++[⟨x.x,x.y,1⟩],some g) (by first| omega| (dsimp only;omega)) ⟨(by first| omega| (dsimp only;omega)),by simp;omega,by simp⟩ (by(refine⟨?_,?_⟩ <;>repeat' (first| exact True.intro| refine ai ?_| refine And.intro ?_ ?_)))
   · cases og with
     | none=>
       obtain rfl:=KU rfl
       simp at hs
       omega
     | some g9=>
       (conv=>whnf);repeat' ((first| intro g| refine bd.mk _ (aJ tL rfl) ?_| refine st ?_| (first| refine b1 ?_ ?_| refine b2 ?_ ?_| refine Br.mk ?_ ?_) <;>intro hc| exact rfl) <;>conv=>whnf)
       refine br.mk (k+1,ts++[⟨e.id,ss,e.left,e.right⟩],g) (by first| omega| (dsimp only;omega)) ⟨(by first| omega| (dsimp only;omega)),by simp;omega,?_⟩ (by(refine⟨?_,?_⟩ <;>repeat' (first| exact True.intro| refine ai ?_| refine And.intro ?_ ?_)))
       intro t h
       rcases List.mem_append.1 h with h| h
       · exact Vw t h
       · have:t=⟨e.id,ss,e.left,e.right⟩:=by simpa using h
         subst this;dsimp only;omega
 · (conv=>whnf);repeat' ((first| intro g| refine st ?_| (first| refine b1 ?_ ?_| refine b2 ?_ ?_| refine Br.mk ?_ ?_) <;>intro hc| exact rfl) <;>conv=>whnf)
   exact⟨ts,⟨by omega,Vw⟩,rfl⟩
end Go.AM
set_option maxRecDepth 20000
namespace Go.AM
set_option maxHeartbeats 4000000 in
theorem ve {ts:List dw} (ht:QS ts) (p:Pt): ∃ (r:Int) (b:Bool),Ev E 163 [.lit 4 (ts.map dw.v),p.v] ⟨.tuple [vi r,.bool b],[]⟩:=by
 have key:=Ev.bT (R:=fun res=> ∃ (r:Int) (b:Bool),res=⟨.tuple [vi r,.bool b],[]⟩) Pl (Pm [.lit 4 (ts.map dw.v),p.v]) rfl ?_
 · obtain⟨res,h1,r,b,rfl⟩:=key
   exact⟨r,b,h1⟩
 have sU:Ev E 199 [p.v] ⟨.agg [vi p.x,vi p.y,vi 1],[]⟩:=lO p.x p.y
 have CN:=ht.1
 (conv=>whnf);repeat' ((first| intro g| refine ak.mk _ (sU) ?_| refine ak.mk _ (rJ _ _ _) ?_| refine st ?_| (first| refine b1 ?_ ?_| refine b2 ?_ ?_| refine Br.mk ?_ ?_) <;>intro hc| exact rfl) <;>conv=>whnf)
 · exact⟨_,_,rfl⟩
 refine a9.by (fun (k:Nat)=> ⟨[(0,.lit 4 (ts.map dw.v)),(3,.ptr 64 g 0 0),(6,aM k)],[(64,⟨g,2,false,false,some [p.v]⟩)]⟩)
   (fun k=>k≤ts.length) (fun k=>ts.length - k) 0 (by(refine⟨?_,?_⟩ <;>repeat' (first| exact True.intro| refine ai ?_| refine And.intro ?_ ?_))) (by first| omega| (dsimp only;omega)) ?_
 intro k hk
 by_cases bJ:k<ts.length
 · obtain⟨t,he⟩: ∃t,ts[k]? =some t:=⟨_,bu bJ⟩
   have Y2:=ht.2 t (List.mem_of_getElem? he)
   (conv=>whnf);repeat' ((first| intro g| refine st ?_| (first| refine b1 ?_ ?_| refine b2 ?_ ?_| refine Br.mk ?_ ?_) <;>intro hc| exact rfl) <;>conv=>whnf)
   refine a9.by (fun (i:Nat)=> ⟨[(0,.lit 4 (ts.map dw.v)),(3,.ptr 64 g 0 0),(6,aM k),(7,aM i)],[(64,⟨g,2,false,false,some [p.v]⟩)]⟩)
     (fun i=>i≤t.j6.length) (fun i=>t.j6.length - i) 0 (by(refine⟨?_,?_⟩ <;>repeat' (first| exact True.intro| refine ai ?_| refine And.intro ?_ ?_))) (by first| omega| (dsimp only;omega)) ?_
   intro i hi
   by_cases wx:i<t.j6.length
   · obtain⟨s,hs⟩: ∃s,t.j6[i]? =some s:=⟨_,bu wx⟩
     have hb:Ev E 198 [s.v] ⟨.bool (wq s.x s.y s.z),[]⟩:=rJ s.x s.y s.z
     (conv=>whnf);repeat' ((first| intro g| refine bd.mk _ (aJ he rfl) ?_| refine bd.mk _ (aJ hs rfl) ?_| refine ak.mk _ (hb) ?_| refine st ?_| (first| refine b1 ?_ ?_| refine b2 ?_ ?_| refine Br.mk ?_ ?_) <;>intro hc| exact rfl) <;>conv=>whnf)
     · exact⟨_,_,rfl⟩
     · exact br.mk (i+1) (by first| omega| (dsimp only;omega)) (by first| omega| (dsimp only;omega)) (by(refine⟨?_,?_⟩ <;>repeat' (first| exact True.intro| refine ai ?_| refine And.intro ?_ ?_)))
   · (conv=>whnf);repeat' ((first| intro g| refine bd.mk _ (aJ he rfl) ?_| refine st ?_| (first| refine b1 ?_ ?_| refine b2 ?_ ?_| refine Br.mk ?_ ?_) <;>intro hc| exact rfl) <;>conv=>whnf)
     exact br.mk (k+1) (by first| omega| (dsimp only;omega)) (by first| omega| (dsimp only;omega)) (by(refine⟨?_,?_⟩ <;>repeat' (first| exact True.intro| refine ai ?_| refine And.intro ?_ ?_)))
 · (conv =>whnf);repeat' ((first| intro g| refine st ?_| (first| refine b1 ?_ ?_| refine b2 ?_ ?_| refine Br.mk ?_ ?_) <;>intro hc| exact rfl) <;>conv=>whnf)
   rename_i g3
   refine a9.by (fun ((k,found,a1,a2,a3,a4,a5,a6,a7):Nat×Bool×Int×Int×Int×Int×Int×Int×Int)=> ⟨[(0,.lit 4 (ts.map dw.v)),(3,.ptr 64 g3 0 0),(8,.bool found),(9,.ptr 160 g 0 0),(10,aM k)],[(64,⟨g3,2,false,false,some [p.v]⟩),(160,⟨g,7,false,false,some [.agg [vi a1,vi a2,vi a3,vi a4,vi a5,vi a6,vi a7]]⟩)]⟩)
     (fun (k,_)=>k≤ts.length) (fun (k,_)=>ts.length - k) (0,false,0,0,0,0,0,0,0) (by(refine⟨?_,?_⟩ <;>repeat' (first| exact True.intro| refine ai ?_| refine And.intro ?_ ?_))) (by first| omega| (dsimp only;omega)) ?_
   rintro⟨k,found,a1,a2,a3,a4,a5,a6,a7⟩ hk
   try dsimp only at hk
   by_cases bJ:k<ts.length
   · obtain⟨t,he⟩: ∃t,ts[k]? =some t:=⟨_,bu bJ⟩
     have Y2:=ht.2 t (List.mem_of_getElem? he)
     (conv=>whnf);repeat' ((first| intro g| refine st ?_| (first| refine b1 ?_ ?_| refine b2 ?_ ?_| refine Br.mk ?_ ?_) <;>intro hc| exact rfl) <;>conv=>whnf)
     refine a9.by (fun ((j,found,a1,a2,a3,a4,a5,a6,a7):Nat×Bool×Int×Int×Int×Int×Int×Int×Int)=> ⟨[(0,.lit 4 (ts.map dw.v)),(3,.ptr 64 g3 0 0),(8,.bool found),(9,.ptr 160 g 0 0),(10,aM k),(11,aM j)],[(64,⟨g3,2,false,false,some [p.v]⟩),(160,⟨g,7,false,false,some [.agg [vi a1,vi a2,vi a3,vi a4,vi a5,vi a6,vi a7]]⟩)]⟩)
       (fun (j,_)=>j≤t.j6.length) (fun (j,_)=>t.j6.length - j) (0,found,a1,a2,a3,a4,a5,a6,a7) (by(refine⟨?_,?_⟩ <;>repeat' (first| exact True.intro| refine ai ?_| refine And.intro ?_ ?_))) (by first| omega| (dsimp only;omega)) ?_
     rintro⟨j,found,a1,a2,a3,a4,a5,a6,a7⟩ hj
     try dsimp only at hj
     have e1:IntKind.i64.wrap ((j:Int)+1)=((j+1:Nat):Int):=(wrap64 (by omega) (by omega)).trans (by omega)
     by_cases Vx:j+1 <t.j6.length
     · obtain⟨x,hx⟩: ∃s,t.j6[j]? =some s:=⟨_,bu (by omega)⟩
       obtain⟨y,hy⟩: ∃s,t.j6[j+1]? =some s:=⟨_,bu Vx⟩
       have XB:Ev E 200 [x.v,y.v,p.v] ⟨.bool (Xz x.x x.y x.z y.x y.y y.z p.x p.y),[]⟩:=QR _ _ _ _ _ _ _ _
       have QT:Ev E 201 [x.v,y.v,p.v] ⟨vi (wv x.x x.y x.z y.x y.y y.z p.x p.y),[]⟩:=yO _ _ _ _ _ _ _ _
       cases found
       · (conv=>whnf);repeat' ((first| intro g| refine bd.mk _ (aJ he rfl) ?_| refine bd.mk _ (aJ hx rfl) ?_| refine bd.mk _ (aJ hy e1) ?_| refine ak.mk _ (XB) ?_| refine ak.mk _ (QT) ?_| refine ak.mk _ (tQ _ _ _ _ _ _ _ _ _ _ _ _ _ _) ?_| refine st ?_| (first| refine b1 ?_ ?_| refine b2 ?_ ?_| refine Br.mk ?_ ?_) <;>intro hc| exact rfl) <;>conv=>whnf)
         · exact⟨_,_,rfl⟩
         · exact br.mk (j+1,true,y.x,y.y,y.z,x.x,x.y,x.z,t.left) (by first| omega| (dsimp only;omega)) (by first| omega| (dsimp only;omega)) (by(refine⟨?_,?_⟩ <;>repeat' (first| exact True.intro| refine ai ?_| refine And.intro ?_ ?_)))
         · exact br.mk (j+1,true,x.x,x.y,x.z,y.x,y.y,y.z,t.right) (by first| omega| (dsimp only;omega)) (by first| omega| (dsimp only;omega)) (by(refine⟨?_,?_⟩ <;>repeat' (first| exact True.intro| refine ai ?_| refine And.intro ?_ ?_)))
         · exact br.mk (j+1,false,a1,a2,a3,a4,a5,a6,a7) (by first| omega| (dsimp only;omega)) (by first| omega| (dsimp only;omega)) (by(refine⟨?_,?_⟩ <;>repeat' (first| exact True.intro| refine ai ?_| refine And.intro ?_ ?_)))
       · (conv=>whnf);repeat' ((first| intro g| refine bd.mk _ (aJ he rfl) ?_| refine bd.mk _ (aJ hx rfl) ?_| refine bd.mk _ (aJ hy e1) ?_| refine ak.mk _ (XB) ?_| refine ak.mk _ (QT) ?_| refine ak.mk _ (tQ _ _ _ _ _ _ _ _ _ _ _ _ _ _) ?_| refine st ?_| (first| refine b1 ?_ ?_| refine b2 ?_ ?_| refine Br.mk ?_ ?_) <;>intro hc| exact rfl) <;>conv=>whnf)
         · exact⟨_,_,rfl⟩
         · exact br.mk (j+1,true,y.x,y.y,y.z,x.x,x.y,x.z,t.left) (by first| omega| (dsimp only;omega)) (by first| omega| (dsimp only;omega)) (by(refine⟨?_,?_⟩ <;>repeat' (first| exact True.intro| refine ai ?_| refine And.intro ?_ ?_)))
         · exact br.mk (j+1,true,a1,a2,a3,a4,a5,a6,a7) (by first| omega| (dsimp only;omega)) (by first| omega| (dsimp only;omega)) (by(refine⟨?_,?_⟩ <;>repeat' (first| exact True.intro| refine ai ?_| refine And.intro ?_ ?_)))
         · exact br.mk (j+1,true,x.x,x.y,x.z,y.x,y.y,y.z,t.right) (by first| omega| (dsimp only;omega)) (by first| omega| (dsimp only;omega)) (by(refine⟨?_,?_⟩ <;>repeat' (first| exact True.intro| refine ai ?_| refine And.intro ?_ ?_)))
         · exact br.mk (j+1,true,a1,a2,a3,a4,a5,a6,a7) (by first| omega| (dsimp only;omega)) (by first| omega| (dsimp only;omega)) (by(refine⟨?_,?_⟩ <;>repeat' (first| exact True.intro| refine ai ?_| refine And.intro ?_ ?_)))
         · exact br.mk (j+1,true,a1,a2,a3,a4,a5,a6,a7) (by first| omega| (dsimp only;omega)) (by first| omega| (dsimp only;omega)) (by(refine⟨?_,?_⟩ <;>repeat' (first| exact True.intro| refine ai ?_| refine And.intro ?_ ?_)))
     · (conv=>whnf);repeat' ((first| intro g| refine bd.mk _ (aJ he rfl) ?_| refine st ?_| (first| refine b1 ?_ ?_| refine b2 ?_ ?_| refine Br.mk ?_ ?_) <;>intro hc| exact rfl) <;>conv=>whnf)
       exact br.mk (k+1,found,a1,a2,a3,a4,a5,a6,a7) (by first| omega| (dsimp only;omega)) (by first| omega| (dsimp only;omega)) (by(refine⟨?_,?_⟩ <;>repeat' (first| exact True.intro| refine ai ?_| refine And.intro ?_ ?_)))
   · (conv=>whnf);repeat' ((first| intro g| refine st ?_| (first| refine b1 ?_ ?_| refine b2 ?_ ?_| refine Br.mk ?_ ?_) <;>intro hc| exact rfl) <;>conv=>whnf)
     exact⟨_,_,rfl⟩
end Go.AM
set_option maxRecDepth 20000
namespace Go.AM
set_option maxHeartbeats 4000000 in
theorem K5 {es:List Edge} {n:Nat} (he:fB es n) (hn:n< 1000) (p:Pt): ∃ (r:Int) (b:Bool),Ev E 121 [.lit 4 (es.map Edge.v),p.v] ⟨.tuple [vi r,.bool b],[]⟩:=by
 have key:=Ev.bT (R:=fun res=> ∃ (r:Int) (b:Bool),res=⟨.tuple [vi r,.bool b],[]⟩) OX (OY [.lit 4 (es.map Edge.v),p.v]) rfl ?_
 · obtain⟨res,h1,r,b,rfl⟩:=key
   exact⟨r,b,h1⟩
 (conv=>whnf);repeat' ((first| intro g| refine st ?_| (first| refine b1 ?_ ?_| refine b2 ?_ ?_| refine Br.mk ?_ ?_) <;>intro hc| exact rfl) <;>conv=>whnf)
 refine ak.ex (AX he hn) ?_
 rintro _ ⟨ts,ht,rfl⟩
 obtain⟨r,b,hr⟩:=ve ht p
 (conv=>whnf);repeat' ((first| intro g| refine ak.mk _ (hr) ?_| refine st ?_| (first| refine b1 ?_ ?_| refine b2 ?_ ?_| refine Br.mk ?_ ?_) <;>intro hc| exact rfl) <;>conv=>whnf)
 exact⟨_,_,rfl⟩
set_option maxHeartbeats 4000000 in
theorem nY (m:cJ) (hf:m.de.length< 1000) (id:Int): ∃r:Int,Ev E 122 [m.v,vi id] ⟨vi r,[]⟩:=by
 have key:=Ev.bT (R:=fun res=> ∃r:Int,res=⟨vi r,[]⟩) OZ (O3 [m.v,vi id]) rfl ?_
 · obtain⟨res,h1,r,rfl⟩:=key
   exact⟨r,h1⟩
 (conv=>whnf);repeat' ((first| intro g| refine st ?_| (first| refine b1 ?_ ?_| refine b2 ?_ ?_| refine Br.mk ?_ ?_) <;>intro hc| exact rfl) <;>conv=>whnf)
 refine a9.by (fun (k:Nat)=> ⟨[(1,vi id),(2,.ptr 48 g 0 0),(5,aM k)],[(48,⟨g,4,false,false,some [m.v]⟩)]⟩)
   (fun k=>k≤m.de.length) (fun k=>m.de.length - k) 0 (by(refine⟨?_,?_⟩ <;>repeat' (first| exact True.intro| refine ai ?_| refine And.intro ?_ ?_))) (by first| omega| (dsimp only;omega)) ?_
 intro k hk
 by_cases bJ:k<m.de.length
 · obtain⟨f,hx⟩: ∃f,m.de[k]? =some f:=⟨_,bu bJ⟩
   (conv=>whnf);repeat' ((first| intro g| refine bd.mk _ (aJ hx rfl) ?_| refine st ?_| (first| refine b1 ?_ ?_| refine b2 ?_ ?_| refine Br.mk ?_ ?_) <;>intro hc| exact rfl) <;>conv=>whnf)
   · exact⟨_,rfl⟩
   · exact br.mk (k+1) (by first| omega| (dsimp only;omega)) (by first| omega| (dsimp only;omega)) (by(refine⟨?_,?_⟩ <;>repeat' (first| exact True.intro| refine ai ?_| refine And.intro ?_ ?_)))
 · (conv=>whnf);repeat' ((first| intro g| refine st ?_| (first| refine b1 ?_ ?_| refine b2 ?_ ?_| refine Br.mk ?_ ?_) <;>intro hc| exact rfl) <;>conv=>whnf)
   exact⟨_,rfl⟩
end Go.AM
