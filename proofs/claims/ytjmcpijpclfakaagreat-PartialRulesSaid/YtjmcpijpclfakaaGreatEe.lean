/-
  Texts of the proof: PTypH2, PTypH3.
-/
import Derived.Test.YtjmcpijpclfakaaGreatD
set_option maxRecDepth 20000
set_option maxHeartbeats 4000000
set_option linter.unusedSimpArgs false
set_option linter.unusedVariables false
namespace Go.AM
theorem Z4 {x y:Ex} (hx:Ev E 371 [x.v] ⟨vi x.b4,[]⟩) (hy:Ev E 371 [y.v] ⟨vi y.b4,[]⟩) {op:Int} (dN:4≤op∧op≤12) (nl:Bool):Ev E 371 [(Ex.mk op 0 aM nl [x,y]).v] ⟨vi (if 0 ∈ [x.b4,y.b4] then 0 else tU op [x.b4,y.b4]),[]⟩:=by
 have hm:=mY op
 have KO:many op=2:=by unfold many;repeat (first| rw[if_neg (by omega)] | rw[if_pos (by omega)])
 rw[KO] at hm
 have n1: ¬op=1:=by omega
 have n2: ¬op=2:=by omega
 have cm:aD E 371=[]:=rfl
 obtain⟨G6,G7,G8,G9,Ha,Hb,tW,fD,Z0,gX⟩:=x.db
 rw[fD] at hx
 generalize x.b4=tx at*
 obtain⟨NY,NZ,N0,N1,N2,N3,xL,gi,hLy,kR⟩:=y.db
 rw[gi] at hy
 generalize y.b4=ty at*
 rw[Ex.bN]
 simp only[List.map_cons,List.map_nil,cP,aM,fD,gi]
 refine Ev.aG AQ (AR _) rfl ?_
 generalize rj:AN op=kc at*
 (conv=>whnf);repeat' ((first| intro g| refine av.mk _ (hm) ?_| refine st ?_| (first| refine b1 ?_ ?_| refine b2 ?_ ?_| refine Br.mk ?_ ?_) <;>intro hc| exact rfl) <;>conv=>whnf)
 rename_i ln
 obtain⟨Fj,yI⟩: ∃x,x=g:=⟨_,rfl⟩
 rw[←yI];clear yI
 refine bj.by (fun ((i,g9):Nat×Nat)=> ⟨[(1,.ptr 32 ln 0 0),(3,vi kc),(5,.ptr 96 Fj 0 0),(43,.lit 7 [.agg [vi G6,vi G7,vi G8,vi G9,.bool Ha,.str Hb,tW],.agg [vi NY,vi NZ,vi N0,vi N1,.bool N2,.str N3,xL]]),(44,aO 2),(45,aO i)],
     match i with
     | 0=> [(32,⟨ln,7,false,false,some [.agg [vi op,vi 0,vi 0,vi 0,.bool false,.str [],.lit 7 [.agg [vi G6,vi G7,vi G8,vi G9,.bool Ha,.str Hb,tW],.agg [vi NY,vi NZ,vi N0,vi N1,.bool N2,.str N3,xL]]]]⟩),(96,⟨Fj,1,false,false,some [.nils]⟩)]
     | i+1=> [(32,⟨ln,7,false,false,some [.agg [vi op,vi 0,vi 0,vi 0,.bool false,.str [],.lit 7 [.agg [vi G6,vi G7,vi G8,vi G9,.bool Ha,.str Hb,tW],.agg [vi NY,vi NZ,vi N0,vi N1,.bool N2,.str N3,xL]]]]⟩),(96,⟨Fj,1,false,false,some [.sl 912 g9 0 (i+1)]⟩),(912,⟨g9,1,true,false,some (c3l (i+1) tx ty 0)⟩)]⟩)
   (fun (i,g9)=>i≤2∧(0 <i→tx≠0)∧(1 <i→ty≠0)) (fun (i,g9)=>2 - i) (0,0) (by(refine⟨?_,?_⟩ <;>repeat' (first| exact True.intro| refine ai ?_| refine And.intro ?_ ?_))) (by simp) ?_
 rintro⟨i,g9⟩ ⟨hi,px,py⟩
 try dsimp only at hi px py
 have gv:i=0∨i=1∨i=2:=by omega
 rcases gv with rfl| rfl| rfl
 · by_cases q0:tx=0
   · subst q0
     (conv=>whnf);repeat' ((first| intro g| refine aq (by assumption) (by first| assumption| rfl| (simp only[V.ae,V.aj,Bool.and_self,Bool.true_and,Bool.and_true, *])) (hx) rfl ?_| refine st ?_| (first| refine b1 ?_ ?_| refine b2 ?_ ?_| refine Br.mk ?_ ?_) <;>intro hc| exact rfl) <;>conv=>whnf)
     all_goals simp
   · (conv=>whnf);repeat' ((first| intro g| refine aq (by assumption) (by first| assumption| rfl| (simp only[V.ae,V.aj,Bool.and_self,Bool.true_and,Bool.and_true, *])) (hx) rfl ?_| refine st ?_| (first| refine b1 ?_ ?_| refine b2 ?_ ?_| refine Br.mk ?_ ?_) <;>intro hc| exact rfl) <;>conv=>whnf)
     exact bk.mk (1,g) (by first| omega| (dsimp only;omega)) ⟨by omega,by intro _;first| exact q0| exact px (by omega) | omega,by intro _;first| exact q0| exact py (by omega) | omega⟩ (by(refine⟨?_,?_⟩ <;>repeat' (first| exact True.intro| refine ai ?_| refine And.intro ?_ ?_)))
 · by_cases q0:ty=0
   · subst q0
     (conv=>whnf);repeat' ((first| intro g| refine aq (by assumption) (by first| assumption| rfl| (simp only[V.ae,V.aj,Bool.and_self,Bool.true_and,Bool.and_true, *])) (hy) rfl ?_| refine st ?_| (first| refine b1 ?_ ?_| refine b2 ?_ ?_| refine Br.mk ?_ ?_) <;>intro hc| exact rfl) <;>conv=>whnf)
     all_goals simp
   · (conv=>whnf);repeat' ((first| intro g| refine aq (by assumption) (by first| assumption| rfl| (simp only[V.ae,V.aj,Bool.and_self,Bool.true_and,Bool.and_true, *])) (hy) rfl ?_| refine st ?_| (first| refine b1 ?_ ?_| refine b2 ?_ ?_| refine Br.mk ?_ ?_) <;>intro hc| exact rfl) <;>conv=>whnf)
     exact bk.mk (2,g) (by first| omega| (dsimp only;omega)) ⟨by omega,by intro _;first| exact q0| exact px (by omega) | omega,by intro _;first| exact q0| exact py (by omega) | omega⟩ (by(refine⟨?_,?_⟩ <;>repeat' (first| exact True.intro| refine ai ?_| refine And.intro ?_ ?_)))
 · have qx:=px (by omega)
   have qy:=py (by omega)
   have en:=fun t:Int=>B7 t (l:=[tx,ty]) (.inl rfl) (by simp)
   have DD:op=4∨op=5∨op=6∨op=7∨(8≤op∧op≤12):=by omega
   rcases DD with rfl| rfl| rfl| rfl| ⟨o8,o12⟩
   · have vE:kc=1:=by rw[←rj];decide
     subst vE
     (conv=>whnf);repeat' ((first| intro g| refine av.mk _ (en _) ?_| refine st ?_| (first| refine b1 ?_ ?_| refine b2 ?_ ?_| refine Br.mk ?_ ?_) <;>intro hc| exact rfl) <;>conv=>whnf)
     all_goals simp_all[tU]
   · have vE:kc=1:=by rw[←rj];decide
     subst vE
     (conv=>whnf);repeat' ((first| intro g| refine av.mk _ (en _) ?_| refine st ?_| (first| refine b1 ?_ ?_| refine b2 ?_ ?_| refine Br.mk ?_ ?_) <;>intro hc| exact rfl) <;>conv=>whnf)
     all_goals simp_all[tU]
   · have vE:kc=2:=by rw[←rj];decide
     subst vE
     (conv=>whnf);repeat' ((first| intro g| refine av.mk _ (en _) ?_| refine st ?_| (first| refine b1 ?_ ?_| refine b2 ?_ ?_| refine Br.mk ?_ ?_) <;>intro hc| exact rfl) <;>conv=>whnf)
     all_goals simp_all[tU]
     all_goals omega
   · have vE:kc=3:=by rw[←rj];decide
     subst vE
     (conv=>whnf);repeat' ((first| intro g| refine av.mk _ (en _) ?_| refine st ?_| (first| refine b1 ?_ ?_| refine b2 ?_ ?_| refine Br.mk ?_ ?_) <;>intro hc| exact rfl) <;>conv=>whnf)
     all_goals simp_all[tU]
   · have vE:kc=4:=by rw[←rj];unfold AN;repeat (first| rw[if_neg (by omega)] | rw[if_pos (by omega)])
     subst vE
     have m4: ¬op=4:=by omega
     have m5: ¬op=5:=by omega
     have m6: ¬op=6:=by omega
     have m7: ¬op=7:=by omega
     (conv=>whnf);repeat' ((first| intro g| refine av.mk _ (en _) ?_| refine st ?_| (first| refine b1 ?_ ?_| refine b2 ?_ ?_| refine Br.mk ?_ ?_) <;>intro hc| exact rfl) <;>conv=>whnf)
     all_goals simp_all[tU]
end Go.AM
namespace Go.AM
theorem Z5 {x y z:Ex} (hx:Ev E 371 [x.v] ⟨vi x.b4,[]⟩) (hy:Ev E 371 [y.v] ⟨vi y.b4,[]⟩) (hz:Ev E 371 [z.v] ⟨vi z.b4,[]⟩) {op:Int} (dN:op=13) (nl:Bool):Ev E 371 [(Ex.mk op 0 aM nl [x,y,z]).v] ⟨vi (if 0 ∈ [x.b4,y.b4,z.b4] then 0 else tU op [x.b4,y.b4,z.b4]),[]⟩:=by
 have hm:=mY op
 have KO:many op=3:=by unfold many;repeat (first| rw[if_neg (by omega)] | rw[if_pos (by omega)])
 rw[KO] at hm
 have n1: ¬op=1:=by omega
 have n2: ¬op=2:=by omega
 have cm:aD E 371=[]:=rfl
 obtain⟨G6,G7,G8,G9,Ha,Hb,tW,fD,Z0,gX⟩:=x.db
 rw[fD] at hx
 generalize x.b4=tx at*
 obtain⟨NY,NZ,N0,N1,N2,N3,xL,gi,hLy,kR⟩:=y.db
 rw[gi] at hy
 generalize y.b4=ty at*
 obtain⟨A1z,B1z,C1z,D1z,E1z,F1z,N4,Ab,hLz,KP⟩:=z.db
 rw[Ab] at hz
 generalize z.b4=tz at*
 rw[Ex.bN]
 simp only[List.map_cons,List.map_nil,cP,aM,fD,gi,Ab]
 refine Ev.aG AQ (AR _) rfl ?_
 generalize rj:AN op=kc at*
 (conv=>whnf);repeat' ((first| intro g| refine av.mk _ (hm) ?_| refine st ?_| (first| refine b1 ?_ ?_| refine b2 ?_ ?_| refine Br.mk ?_ ?_) <;>intro hc| exact rfl) <;>conv=>whnf)
 rename_i ln
 obtain⟨Fj,yI⟩: ∃x,x=g:=⟨_,rfl⟩
 rw[←yI];clear yI
 refine bj.by (fun ((i,g9):Nat×Nat)=> ⟨[(1,.ptr 32 ln 0 0),(3,vi kc),(5,.ptr 96 Fj 0 0),(43,.lit 7 [.agg [vi G6,vi G7,vi G8,vi G9,.bool Ha,.str Hb,tW],.agg [vi NY,vi NZ,vi N0,vi N1,.bool N2,.str N3,xL],.agg [vi A1z,vi B1z,vi C1z,vi D1z,.bool E1z,.str F1z,N4]]),(44,aO 3),(45,aO i)],
     match i with
     | 0=> [(32,⟨ln,7,false,false,some [.agg [vi op,vi 0,vi 0,vi 0,.bool false,.str [],.lit 7 [.agg [vi G6,vi G7,vi G8,vi G9,.bool Ha,.str Hb,tW],.agg [vi NY,vi NZ,vi N0,vi N1,.bool N2,.str N3,xL],.agg [vi A1z,vi B1z,vi C1z,vi D1z,.bool E1z,.str F1z,N4]]]]⟩),(96,⟨Fj,1,false,false,some [.nils]⟩)]
     | i+1=> [(32,⟨ln,7,false,false,some [.agg [vi op,vi 0,vi 0,vi 0,.bool false,.str [],.lit 7 [.agg [vi G6,vi G7,vi G8,vi G9,.bool Ha,.str Hb,tW],.agg [vi NY,vi NZ,vi N0,vi N1,.bool N2,.str N3,xL],.agg [vi A1z,vi B1z,vi C1z,vi D1z,.bool E1z,.str F1z,N4]]]]⟩),(96,⟨Fj,1,false,false,some [.sl 912 g9 0 (i+1)]⟩),(912,⟨g9,1,true,false,some (c3l (i+1) tx ty tz)⟩)]⟩)
   (fun (i,g9)=>i≤3∧(0 <i→tx≠0)∧(1 <i→ty≠0)∧(2 <i→tz≠0)) (fun (i,g9)=>3 - i) (0,0) (by(refine⟨?_,?_⟩ <;>repeat' (first| exact True.intro| refine ai ?_| refine And.intro ?_ ?_))) (by simp) ?_
 rintro⟨i,g9⟩ ⟨hi,px,py,pz⟩
 try dsimp only at hi px py pz
 have gv:i=0∨i=1∨i=2∨i=3:=by omega
 rcases gv with rfl| rfl| rfl| rfl
 · by_cases q0:tx=0
   · subst q0
     (conv=>whnf);repeat' ((first| intro g| refine aq (by assumption) (by first| assumption| rfl| (simp only[V.ae,V.aj,Bool.and_self,Bool.true_and,Bool.and_true, *])) (hx) rfl ?_| refine st ?_| (first| refine b1 ?_ ?_| refine b2 ?_ ?_| refine Br.mk ?_ ?_) <;>intro hc| exact rfl) <;>conv=>whnf)
     all_goals simp
   · (conv=>whnf);repeat' ((first| intro g| refine aq (by assumption) (by first| assumption| rfl| (simp only[V.ae,V.aj,Bool.and_self,Bool.true_and,Bool.and_true, *])) (hx) rfl ?_| refine st ?_| (first| refine b1 ?_ ?_| refine b2 ?_ ?_| refine Br.mk ?_ ?_) <;>intro hc| exact rfl) <;>conv=>whnf)
     exact bk.mk (1,g) (by first| omega| (dsimp only;omega)) ⟨by omega,by intro _;first| exact q0| exact px (by omega) | omega,by intro _;first| exact q0| exact py (by omega) | omega,by intro _;first| exact q0| exact pz (by omega) | omega⟩ (by(refine⟨?_,?_⟩ <;>repeat' (first| exact True.intro| refine ai ?_| refine And.intro ?_ ?_)))
 · by_cases q0:ty=0
   · subst q0
     (conv=>whnf);repeat' ((first| intro g| refine aq (by assumption) (by first| assumption| rfl| (simp only[V.ae,V.aj,Bool.and_self,Bool.true_and,Bool.and_true, *])) (hy) rfl ?_| refine st ?_| (first| refine b1 ?_ ?_| refine b2 ?_ ?_| refine Br.mk ?_ ?_) <;>intro hc| exact rfl) <;>conv=>whnf)
     all_goals simp
   · (conv=>whnf);repeat' ((first| intro g| refine aq (by assumption) (by first| assumption| rfl| (simp only[V.ae,V.aj,Bool.and_self,Bool.true_and,Bool.and_true, *])) (hy) rfl ?_| refine st ?_| (first| refine b1 ?_ ?_| refine b2 ?_ ?_| refine Br.mk ?_ ?_) <;>intro hc| exact rfl) <;>conv=>whnf)
     exact bk.mk (2,g) (by first| omega| (dsimp only;omega)) ⟨by omega,by intro _;first| exact q0| exact px (by omega) | omega,by intro _;first| exact q0| exact py (by omega) | omega,by intro _;first| exact q0| exact pz (by omega) | omega⟩ (by(refine⟨?_,?_⟩ <;>repeat' (first| exact True.intro| refine ai ?_| refine And.intro ?_ ?_)))
 · by_cases q0:tz=0
   · subst q0
     (conv=>whnf);repeat' ((first| intro g| refine aq (by assumption) (by first| assumption| rfl| (simp only[V.ae,V.aj,Bool.and_self,Bool.true_and,Bool.and_true, *])) (hz) rfl ?_| refine st ?_| (first| refine b1 ?_ ?_| refine b2 ?_ ?_| refine Br.mk ?_ ?_) <;>intro hc| exact rfl) <;>conv=>whnf)
     all_goals simp
   · (conv=>whnf);repeat' ((first| intro g| refine aq (by assumption) (by first| assumption| rfl| (simp only[V.ae,V.aj,Bool.and_self,Bool.true_and,Bool.and_true, *])) (hz) rfl ?_| refine st ?_| (first| refine b1 ?_ ?_| refine b2 ?_ ?_| refine Br.mk ?_ ?_) <;>intro hc| exact rfl) <;>conv=>whnf)
     exact bk.mk (3,g) (by first| omega| (dsimp only;omega)) ⟨by omega,by intro _;first| exact q0| exact px (by omega) | omega,by intro _;first| exact q0| exact py (by omega) | omega,by intro _;first| exact q0| exact pz (by omega) | omega⟩ (by(refine⟨?_,?_⟩ <;>repeat' (first| exact True.intro| refine ai ?_| refine And.intro ?_ ?_)))
 · have qx:=px (by omega)
   have qy:=py (by omega)
   have qz:=pz (by omega)
   have en:=fun t:Int=>B7 t (l:=[tx,ty,tz]) (.inl rfl) (by simp)
   subst dN
   have vE:kc=5:=by rw[←rj];decide
   subst vE
   (conv=>whnf);repeat' ((first| intro g| refine st ?_| (first| refine b1 ?_ ?_| refine b2 ?_ ?_| refine Br.mk ?_ ?_) <;>intro hc| exact rfl) <;>conv=>whnf)
   all_goals simp_all[tU]
   all_goals omega
end Go.AM
