/-
  Texts of the proof: PTypF1, PTypF2, PTypF3.
-/
import Derived.Test.YtjmcpijpclfakaaGreatD
set_option maxRecDepth 20000
set_option maxHeartbeats 4000000
set_option linter.unusedSimpArgs false
set_option linter.unusedVariables false
namespace Go.AM
theorem Z1 {x:Ex} (hx:Ev E 383 [x.v] ⟨vi x.b4,[]⟩) {op:Int} (dN:op=3) (nl:Bool):Ev E 383 [(Ex.mk op 0 aM nl [x]).v] ⟨vi (if 0 ∈ [x.b4] then 0 else tU op [x.b4]),[]⟩:=by
 have hm:=qM op
 have KO:many op=1:=by unfold many;repeat (first| rw[if_neg (by omega)] | rw[if_pos (by omega)])
 rw[KO] at hm
 have n1: ¬op=1:=by omega
 have n2: ¬op=2:=by omega
 have cm:aD E 383=[]:=rfl
 obtain⟨G6,G7,G8,G9,Ha,Hb,tW,fD,Z0,gX⟩:=x.db
 rw[fD] at hx
 generalize x.b4=tx at*
 rw[Ex.bN]
 simp only[List.map_cons,List.map_nil,cP,aM,fD]
 refine Ev.aG AO (AP _) rfl ?_
 (conv=>whnf);repeat' ((first| intro g| refine av.mk _ (hm) ?_| refine st ?_| (first| refine b1 ?_ ?_| refine b2 ?_ ?_| refine Br.mk ?_ ?_) <;>intro hc| exact rfl) <;>conv=>whnf)
 rename_i ln
 refine bj.by (fun (i:Nat)=> ⟨[(1,.ptr 32 ln 0 0),(3,.ptr 64 g 0 0),(4,aO i)],[(32,⟨ln,7,false,false,some [_]⟩),(64,⟨g,3,false,false,some [.agg (c3 i tx 0 0)]⟩)]⟩) (fun i=>i≤1∧(0 <i→tx≠0)) (fun i=>1 - i) 0 (by(refine⟨?_,?_⟩ <;>repeat' (first| exact True.intro| refine ai ?_| refine And.intro ?_ ?_))) (by simp) ?_
 rintro i ⟨hi,px⟩
 have gv:i=0∨i=1:=by omega
 rcases gv with rfl| rfl
 · by_cases q0:tx=0
   · subst q0
     (conv=>whnf);repeat' ((first| intro g| refine aq (by assumption) (by first| assumption| rfl| (simp only[V.ae,V.aj,Bool.and_self,Bool.true_and,Bool.and_true, *])) (hx) rfl ?_| refine st ?_| (first| refine b1 ?_ ?_| refine b2 ?_ ?_| refine Br.mk ?_ ?_) <;>intro hc| exact rfl) <;>conv=>whnf)
     all_goals simp
   · (conv=>whnf);repeat' ((first| intro g| refine aq (by assumption) (by first| assumption| rfl| (simp only[V.ae,V.aj,Bool.and_self,Bool.true_and,Bool.and_true, *])) (hx) rfl ?_| refine st ?_| (first| refine b1 ?_ ?_| refine b2 ?_ ?_| refine Br.mk ?_ ?_) <;>intro hc| exact rfl) <;>conv=>whnf)
     exact bk.mk 1 (by first| omega| (dsimp only;omega)) ⟨by omega,by intro _;first| exact q0| exact px (by omega) | omega⟩ (by(refine⟨?_,?_⟩ <;>repeat' (first| exact True.intro| refine ai ?_| refine And.intro ?_ ?_)))
 · have qx:=px (by omega)
   subst dN
   by_cases w1:tx=2
   all_goals
     (conv=>whnf);repeat' ((first| intro g| refine st ?_| (first| refine b1 ?_ ?_| refine b2 ?_ ?_| refine Br.mk ?_ ?_) <;>intro hc| exact rfl) <;>conv=>whnf)
     all_goals simp_all[tU]
end Go.AM
namespace Go.AM
theorem ZZ {x y:Ex} (hx:Ev E 383 [x.v] ⟨vi x.b4,[]⟩) (hy:Ev E 383 [y.v] ⟨vi y.b4,[]⟩) {op:Int} (dN:4≤op∧op≤12) (nl:Bool):Ev E 383 [(Ex.mk op 0 aM nl [x,y]).v] ⟨vi (if 0 ∈ [x.b4,y.b4] then 0 else tU op [x.b4,y.b4]),[]⟩:=by
 have hm:=qM op
 have KO:many op=2:=by unfold many;repeat (first| rw[if_neg (by omega)] | rw[if_pos (by omega)])
 rw[KO] at hm
 have n1: ¬op=1:=by omega
 have n2: ¬op=2:=by omega
 have cm:aD E 383=[]:=rfl
 obtain⟨G6,G7,G8,G9,Ha,Hb,tW,fD,Z0,gX⟩:=x.db
 rw[fD] at hx
 generalize x.b4=tx at*
 obtain⟨NY,NZ,N0,N1,N2,N3,xL,gi,hLy,kR⟩:=y.db
 rw[gi] at hy
 generalize y.b4=ty at*
 rw[Ex.bN]
 simp only[List.map_cons,List.map_nil,cP,aM,fD,gi]
 refine Ev.aG AO (AP _) rfl ?_
 (conv=>whnf);repeat' ((first| intro g| refine av.mk _ (hm) ?_| refine st ?_| (first| refine b1 ?_ ?_| refine b2 ?_ ?_| refine Br.mk ?_ ?_) <;>intro hc| exact rfl) <;>conv=>whnf)
 rename_i ln
 refine bj.by (fun (i:Nat)=> ⟨[(1,.ptr 32 ln 0 0),(3,.ptr 64 g 0 0),(4,aO i)],[(32,⟨ln,7,false,false,some [_]⟩),(64,⟨g,3,false,false,some [.agg (c3 i tx ty 0)]⟩)]⟩) (fun i=>i≤2∧(0 <i→tx≠0)∧(1 <i→ty≠0)) (fun i=>2 - i) 0 (by(refine⟨?_,?_⟩ <;>repeat' (first| exact True.intro| refine ai ?_| refine And.intro ?_ ?_))) (by simp) ?_
 rintro i ⟨hi,px,py⟩
 have gv:i=0∨i=1∨i=2:=by omega
 rcases gv with rfl| rfl| rfl
 · by_cases q0:tx=0
   · subst q0
     (conv=>whnf);repeat' ((first| intro g| refine aq (by assumption) (by first| assumption| rfl| (simp only[V.ae,V.aj,Bool.and_self,Bool.true_and,Bool.and_true, *])) (hx) rfl ?_| refine st ?_| (first| refine b1 ?_ ?_| refine b2 ?_ ?_| refine Br.mk ?_ ?_) <;>intro hc| exact rfl) <;>conv=>whnf)
     all_goals simp
   · (conv=>whnf);repeat' ((first| intro g| refine aq (by assumption) (by first| assumption| rfl| (simp only[V.ae,V.aj,Bool.and_self,Bool.true_and,Bool.and_true, *])) (hx) rfl ?_| refine st ?_| (first| refine b1 ?_ ?_| refine b2 ?_ ?_| refine Br.mk ?_ ?_) <;>intro hc| exact rfl) <;>conv=>whnf)
     exact bk.mk 1 (by first| omega| (dsimp only;omega)) ⟨by omega,by intro _;first| exact q0| exact px (by omega) | omega,by intro _;first| exact q0| exact py (by omega) | omega⟩ (by(refine⟨?_,?_⟩ <;>repeat' (first| exact True.intro| refine ai ?_| refine And.intro ?_ ?_)))
 · by_cases q0:ty=0
   · subst q0
     (conv=>whnf);repeat' ((first| intro g| refine aq (by assumption) (by first| assumption| rfl| (simp only[V.ae,V.aj,Bool.and_self,Bool.true_and,Bool.and_true, *])) (hy) rfl ?_| refine st ?_| (first| refine b1 ?_ ?_| refine b2 ?_ ?_| refine Br.mk ?_ ?_) <;>intro hc| exact rfl) <;>conv=>whnf)
     all_goals simp
   · (conv=>whnf);repeat' ((first| intro g| refine aq (by assumption) (by first| assumption| rfl| (simp only[V.ae,V.aj,Bool.and_self,Bool.true_and,Bool.and_true, *])) (hy) rfl ?_| refine st ?_| (first| refine b1 ?_ ?_| refine b2 ?_ ?_| refine Br.mk ?_ ?_) <;>intro hc| exact rfl) <;>conv=>whnf)
     exact bk.mk 2 (by first| omega| (dsimp only;omega)) ⟨by omega,by intro _;first| exact q0| exact px (by omega) | omega,by intro _;first| exact q0| exact py (by omega) | omega⟩ (by(refine⟨?_,?_⟩ <;>repeat' (first| exact True.intro| refine ai ?_| refine And.intro ?_ ?_)))
 · have qx:=px (by omega)
   have qy:=py (by omega)
   have DD:op=4∨op=5∨op=6∨op=7∨(8≤op∧op≤12):=by omega
   rcases DD with rfl| rfl| rfl| rfl| ⟨o8,o12⟩
   · (conv=>whnf);repeat' ((first| intro g| refine st ?_| (first| refine b1 ?_ ?_| refine b2 ?_ ?_| refine Br.mk ?_ ?_) <;>intro hc| exact rfl) <;>conv=>whnf)
     all_goals simp_all[tU]
   · (conv=>whnf);repeat' ((first| intro g| refine st ?_| (first| refine b1 ?_ ?_| refine b2 ?_ ?_| refine Br.mk ?_ ?_) <;>intro hc| exact rfl) <;>conv=>whnf)
     all_goals simp_all[tU]
   · (conv=>whnf);repeat' ((first| intro g| refine st ?_| (first| refine b1 ?_ ?_| refine b2 ?_ ?_| refine Br.mk ?_ ?_) <;>intro hc| exact rfl) <;>conv=>whnf)
     all_goals simp_all[tU]
     all_goals omega
   · (conv=>whnf);repeat' ((first| intro g| refine st ?_| (first| refine b1 ?_ ?_| refine b2 ?_ ?_| refine Br.mk ?_ ?_) <;>intro hc| exact rfl) <;>conv=>whnf)
     all_goals simp_all[tU]
   · have m3: ¬op=3:=by omega
     have m4: ¬op=4:=by omega
     have m5: ¬op=5:=by omega
     have m6: ¬op=6:=by omega
     have m7: ¬op=7:=by omega
     have m13: ¬op=13:=by omega
     (conv=>whnf);repeat' ((first| intro g| refine st ?_| (first| refine b1 ?_ ?_| refine b2 ?_ ?_| refine Br.mk ?_ ?_) <;>intro hc| exact rfl) <;>conv=>whnf)
     all_goals simp_all[tU]
end Go.AM
namespace Go.AM
theorem Z2 {x y z:Ex} (hx:Ev E 383 [x.v] ⟨vi x.b4,[]⟩) (hy:Ev E 383 [y.v] ⟨vi y.b4,[]⟩) (hz:Ev E 383 [z.v] ⟨vi z.b4,[]⟩) {op:Int} (dN:op=13) (nl:Bool):Ev E 383 [(Ex.mk op 0 aM nl [x,y,z]).v] ⟨vi (if 0 ∈ [x.b4,y.b4,z.b4] then 0 else tU op [x.b4,y.b4,z.b4]),[]⟩:=by
 have hm:=qM op
 have KO:many op=3:=by unfold many;repeat (first| rw[if_neg (by omega)] | rw[if_pos (by omega)])
 rw[KO] at hm
 have n1: ¬op=1:=by omega
 have n2: ¬op=2:=by omega
 have cm:aD E 383=[]:=rfl
 obtain⟨G6,G7,G8,G9,Ha,Hb,tW,fD,Z0,gX⟩:=x.db
 rw[fD] at hx
 generalize x.b4=tx at*
 obtain⟨NY,NZ,N0,N1,N2,N3,xL,gi,hLy,kR⟩:=y.db
 rw[gi] at hy
 generalize y.b4=ty at*
 obtain⟨A1z,B1z,C1z,D1z,E1z,F1z,N4,Ab,hLz,KP⟩:=z.db
 rw[Ab] at hz
 generalize z.b4=tz at*
 rw[Ex.bN]
 simp only[List.map_cons,List.map_nil,cP,aM,fD,gi,Ab]
 refine Ev.aG AO (AP _) rfl ?_
 (conv=>whnf);repeat' ((first| intro g| refine av.mk _ (hm) ?_| refine st ?_| (first| refine b1 ?_ ?_| refine b2 ?_ ?_| refine Br.mk ?_ ?_) <;>intro hc| exact rfl) <;>conv=>whnf)
 rename_i ln
 refine bj.by (fun (i:Nat)=> ⟨[(1,.ptr 32 ln 0 0),(3,.ptr 64 g 0 0),(4,aO i)],[(32,⟨ln,7,false,false,some [_]⟩),(64,⟨g,3,false,false,some [.agg (c3 i tx ty tz)]⟩)]⟩) (fun i=>i≤3∧(0 <i→tx≠0)∧(1 <i→ty≠0)∧(2 <i→tz≠0)) (fun i=>3 - i) 0 (by(refine⟨?_,?_⟩ <;>repeat' (first| exact True.intro| refine ai ?_| refine And.intro ?_ ?_))) (by simp) ?_
 rintro i ⟨hi,px,py,pz⟩
 have gv:i=0∨i=1∨i=2∨i=3:=by omega
 rcases gv with rfl| rfl| rfl| rfl
 · by_cases q0:tx=0
   · subst q0
     (conv=>whnf);repeat' ((first| intro g| refine aq (by assumption) (by first| assumption| rfl| (simp only[V.ae,V.aj,Bool.and_self,Bool.true_and,Bool.and_true, *])) (hx) rfl ?_| refine st ?_| (first| refine b1 ?_ ?_| refine b2 ?_ ?_| refine Br.mk ?_ ?_) <;>intro hc| exact rfl) <;>conv=>whnf)
     all_goals simp
   · (conv=>whnf);repeat' ((first| intro g| refine aq (by assumption) (by first| assumption| rfl| (simp only[V.ae,V.aj,Bool.and_self,Bool.true_and,Bool.and_true, *])) (hx) rfl ?_| refine st ?_| (first| refine b1 ?_ ?_| refine b2 ?_ ?_| refine Br.mk ?_ ?_) <;>intro hc| exact rfl) <;>conv=>whnf)
     exact bk.mk 1 (by first| omega| (dsimp only;omega)) ⟨by omega,by intro _;first| exact q0| exact px (by omega) | omega,by intro _;first| exact q0| exact py (by omega) | omega,by intro _;first| exact q0| exact pz (by omega) | omega⟩ (by(refine⟨?_,?_⟩ <;>repeat' (first| exact True.intro| refine ai ?_| refine And.intro ?_ ?_)))
 · by_cases q0:ty=0
   · subst q0
     (conv=>whnf);repeat' ((first| intro g| refine aq (by assumption) (by first| assumption| rfl| (simp only[V.ae,V.aj,Bool.and_self,Bool.true_and,Bool.and_true, *])) (hy) rfl ?_| refine st ?_| (first| refine b1 ?_ ?_| refine b2 ?_ ?_| refine Br.mk ?_ ?_) <;>intro hc| exact rfl) <;>conv=>whnf)
     all_goals simp
   · (conv=>whnf);repeat' ((first| intro g| refine aq (by assumption) (by first| assumption| rfl| (simp only[V.ae,V.aj,Bool.and_self,Bool.true_and,Bool.and_true, *])) (hy) rfl ?_| refine st ?_| (first| refine b1 ?_ ?_| refine b2 ?_ ?_| refine Br.mk ?_ ?_) <;>intro hc| exact rfl) <;>conv=>whnf)
     exact bk.mk 2 (by first| omega| (dsimp only;omega)) ⟨by omega,by intro _;first| exact q0| exact px (by omega) | omega,by intro _;first| exact q0| exact py (by omega) | omega,by intro _;first| exact q0| exact pz (by omega) | omega⟩ (by(refine⟨?_,?_⟩ <;>repeat' (first| exact True.intro| refine ai ?_| refine And.intro ?_ ?_)))
 · by_cases q0:tz=0
   · subst q0
     (conv=>whnf);repeat' ((first| intro g| refine aq (by assumption) (by first| assumption| rfl| (simp only[V.ae,V.aj,Bool.and_self,Bool.true_and,Bool.and_true, *])) (hz) rfl ?_| refine st ?_| (first| refine b1 ?_ ?_| refine b2 ?_ ?_| refine Br.mk ?_ ?_) <;>intro hc| exact rfl) <;>conv=>whnf)
     all_goals simp
   · (conv=>whnf);repeat' ((first| intro g| refine aq (by assumption) (by first| assumption| rfl| (simp only[V.ae,V.aj,Bool.and_self,Bool.true_and,Bool.and_true, *])) (hz) rfl ?_| refine st ?_| (first| refine b1 ?_ ?_| refine b2 ?_ ?_| refine Br.mk ?_ ?_) <;>intro hc| exact rfl) <;>conv=>whnf)
     exact bk.mk 3 (by first| omega| (dsimp only;omega)) ⟨by omega,by intro _;first| exact q0| exact px (by omega) | omega,by intro _;first| exact q0| exact py (by omega) | omega,by intro _;first| exact q0| exact pz (by omega) | omega⟩ (by(refine⟨?_,?_⟩ <;>repeat' (first| exact True.intro| refine ai ?_| refine And.intro ?_ ?_)))
 · have qx:=px (by omega)
   have qy:=py (by omega)
   have qz:=pz (by omega)
   subst dN
   (conv=>whnf);repeat' ((first| intro g| refine st ?_| (first| refine b1 ?_ ?_| refine b2 ?_ ?_| refine Br.mk ?_ ?_) <;>intro hc| exact rfl) <;>conv=>whnf)
   all_goals simp_all[tU]
   all_goals omega
end Go.AM
