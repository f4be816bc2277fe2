/-
  Texts of the proof: PEvo8i, PEvo9i, PEvo10i, PEvo11i, PEvo12i, PEvfi, PEvfb, PEvfs, PEvB.
-/
import Derived.Test.YtjmcpijpclfakaaGreatVb
import Derived.Test.YtjmcpijpclfakaaGreatKa
set_option maxRecDepth 20000
set_option maxHeartbeats 4000000
set_option linter.unusedSimpArgs false
set_option linter.unusedVariables false
namespace Go.AM
theorem QF {x0 x1:Ex} {ev:b5} {v0:Int} {v1:Int} (h0:Ev E 392 [x0.v,ev.v] ⟨.iface 3 (vi v0),[]⟩) (h1:Ev E 392 [x1.v,ev.v] ⟨.iface 3 (vi v1),[]⟩) (nl:Bool):Ev E 392 [(Ex.mk 8 0 aM nl [x0,x1]).v,ev.v] ⟨.iface 3 (vi (dW (oG (v0+v1)))),[]⟩:=by
 have cm:aD E 392=[]:=rfl
 have ei:ev.v= .agg [vi ev.kind,.str ev.cls,.str ev.name,vi ev.weight,vi ev.level,.bool ev.cg,vi ev.scale,vi ev.hour,vi ev.reader]:=rfl
 obtain⟨A0,B0,C0,D0,E0,F0,L0,fB,Ix,fY⟩:=x0.db
 rw[fB,ei] at h0
 obtain⟨A1,B1,C1,D1,E1,F1,L1,fX,Kc,mR⟩:=x1.db
 rw[fX,ei] at h1
 rw[ei,Ex.bN]
 simp only[List.map_cons,List.map_nil,cP,aM,fB,fX]
 refine Ev.aG ju (jv _) rfl ?_
 (conv=>whnf);repeat' ((first| intro g| refine st ?_| (first| refine b1 ?_ ?_| refine b2 ?_ ?_| refine Br.mk ?_ ?_) <;>intro hc| exact rfl) <;>conv=>whnf)
 rename_i ed fh
 refine bj.by (fun ((i,g9):Nat×Nat)=> ⟨[(2,.ptr 48 ed 0 0),(3,.ptr 64 fh 0 0),(5,.sl 97 g9 0 i),(12,.lit 7 [.agg [vi A0,vi B0,vi C0,vi D0,.bool E0,.str F0,L0],.agg [vi A1,vi B1,vi C1,vi D1,.bool E1,.str F1,L1]]),(13,aO 2),(14,aO i)],[(48,⟨ed,7,false,false,some [.agg [vi 8,vi 0,vi 0,vi 0,.bool false,.str [],.lit 7 [.agg [vi A0,vi B0,vi C0,vi D0,.bool E0,.str F0,L0],.agg [vi A1,vi B1,vi C1,vi D1,.bool E1,.str F1,L1]]]]⟩),(64,⟨fh,9,false,false,some [.agg [vi ev.kind,.str ev.cls,.str ev.name,vi ev.weight,vi ev.level,.bool ev.cg,vi ev.scale,vi ev.hour,vi ev.reader]]⟩),(97,⟨g9,1,true,false,some (iV i (.iface 3 (vi v0)) (.iface 3 (vi v1)) (.nili))⟩)]⟩)
   (fun (i,g9)=>i≤2) (fun (i,g9)=>2 - i) (0,g) (by(refine⟨?_,?_⟩ <;>repeat' (first| exact True.intro| refine ai ?_| refine And.intro ?_ ?_))) (by simp) ?_
 rintro⟨i,g9⟩ hi
 try dsimp only at hi
 have gv:i=0∨i=1∨i=2:=by omega
 rcases gv with rfl| rfl| rfl
 · simp only[iV]
   (conv=>whnf);repeat' ((first| intro g| refine aq (by assumption) (by first| assumption| rfl| (simp only[V.ae,V.aj,Bool.and_self,Bool.true_and,Bool.and_true, *])) (h0) rfl ?_| refine st ?_| (first| refine b1 ?_ ?_| refine b2 ?_ ?_| refine Br.mk ?_ ?_) <;>intro hc| exact rfl) <;>conv=>whnf)
   exact bk.mk (1,g) (by first| omega| (dsimp only;omega)) (by omega) (by(refine⟨?_,?_⟩ <;>repeat' (first| exact True.intro| refine ai ?_| refine And.intro ?_ ?_)))
 · simp only[iV]
   (conv=>whnf);repeat' ((first| intro g| refine aq (by assumption) (by first| assumption| rfl| (simp only[V.ae,V.aj,Bool.and_self,Bool.true_and,Bool.and_true, *])) (h1) rfl ?_| refine st ?_| (first| refine b1 ?_ ?_| refine b2 ?_ ?_| refine Br.mk ?_ ?_) <;>intro hc| exact rfl) <;>conv=>whnf)
   exact bk.mk (2,g) (by first| omega| (dsimp only;omega)) (by omega) (by(refine⟨?_,?_⟩ <;>repeat' (first| exact True.intro| refine ai ?_| refine And.intro ?_ ?_)))
 · simp only[iV]
   (conv=>whnf);repeat' ((first| intro g| refine av.mk _ (tP _) ?_| refine st ?_| (first| refine b1 ?_ ?_| refine b2 ?_ ?_| refine Br.mk ?_ ?_) <;>intro hc| exact rfl) <;>conv=>whnf)
end Go.AM
namespace Go.AM
theorem QG {x0 x1:Ex} {ev:b5} {v0:Int} {v1:Int} (h0:Ev E 392 [x0.v,ev.v] ⟨.iface 3 (vi v0),[]⟩) (h1:Ev E 392 [x1.v,ev.v] ⟨.iface 3 (vi v1),[]⟩) (nl:Bool):Ev E 392 [(Ex.mk 9 0 aM nl [x0,x1]).v,ev.v] ⟨.iface 3 (vi (dW (oG (v0 - v1)))),[]⟩:=by
 have cm:aD E 392=[]:=rfl
 have ei:ev.v= .agg [vi ev.kind,.str ev.cls,.str ev.name,vi ev.weight,vi ev.level,.bool ev.cg,vi ev.scale,vi ev.hour,vi ev.reader]:=rfl
 obtain⟨A0,B0,C0,D0,E0,F0,L0,fB,Ix,fY⟩:=x0.db
 rw[fB,ei] at h0
 obtain⟨A1,B1,C1,D1,E1,F1,L1,fX,Kc,mR⟩:=x1.db
 rw[fX,ei] at h1
 rw[ei,Ex.bN]
 simp only[List.map_cons,List.map_nil,cP,aM,fB,fX]
 refine Ev.aG ju (jv _) rfl ?_
 (conv=>whnf);repeat' ((first| intro g| refine st ?_| (first| refine b1 ?_ ?_| refine b2 ?_ ?_| refine Br.mk ?_ ?_) <;>intro hc| exact rfl) <;>conv=>whnf)
 rename_i ed fh
 refine bj.by (fun ((i,g9):Nat×Nat)=> ⟨[(2,.ptr 48 ed 0 0),(3,.ptr 64 fh 0 0),(5,.sl 97 g9 0 i),(12,.lit 7 [.agg [vi A0,vi B0,vi C0,vi D0,.bool E0,.str F0,L0],.agg [vi A1,vi B1,vi C1,vi D1,.bool E1,.str F1,L1]]),(13,aO 2),(14,aO i)],[(48,⟨ed,7,false,false,some [.agg [vi 9,vi 0,vi 0,vi 0,.bool false,.str [],.lit 7 [.agg [vi A0,vi B0,vi C0,vi D0,.bool E0,.str F0,L0],.agg [vi A1,vi B1,vi C1,vi D1,.bool E1,.str F1,L1]]]]⟩),(64,⟨fh,9,false,false,some [.agg [vi ev.kind,.str ev.cls,.str ev.name,vi ev.weight,vi ev.level,.bool ev.cg,vi ev.scale,vi ev.hour,vi ev.reader]]⟩),(97,⟨g9,1,true,false,some (iV i (.iface 3 (vi v0)) (.iface 3 (vi v1)) (.nili))⟩)]⟩)
   (fun (i,g9)=>i≤2) (fun (i,g9)=>2 - i) (0,g) (by(refine⟨?_,?_⟩ <;>repeat' (first| exact True.intro| refine ai ?_| refine And.intro ?_ ?_))) (by simp) ?_
 rintro⟨i,g9⟩ hi
 try dsimp only at hi
 have gv:i=0∨i=1∨i=2:=by omega
 rcases gv with rfl| rfl| rfl
 · simp only[iV]
   (conv=>whnf);repeat' ((first| intro g| refine aq (by assumption) (by first| assumption| rfl| (simp only[V.ae,V.aj,Bool.and_self,Bool.true_and,Bool.and_true, *])) (h0) rfl ?_| refine st ?_| (first| refine b1 ?_ ?_| refine b2 ?_ ?_| refine Br.mk ?_ ?_) <;>intro hc| exact rfl) <;>conv=>whnf)
   exact bk.mk (1,g) (by first| omega| (dsimp only;omega)) (by omega) (by(refine⟨?_,?_⟩ <;>repeat' (first| exact True.intro| refine ai ?_| refine And.intro ?_ ?_)))
 · simp only[iV]
   (conv=>whnf);repeat' ((first| intro g| refine aq (by assumption) (by first| assumption| rfl| (simp only[V.ae,V.aj,Bool.and_self,Bool.true_and,Bool.and_true, *])) (h1) rfl ?_| refine st ?_| (first| refine b1 ?_ ?_| refine b2 ?_ ?_| refine Br.mk ?_ ?_) <;>intro hc| exact rfl) <;>conv=>whnf)
   exact bk.mk (2,g) (by first| omega| (dsimp only;omega)) (by omega) (by(refine⟨?_,?_⟩ <;>repeat' (first| exact True.intro| refine ai ?_| refine And.intro ?_ ?_)))
 · simp only[iV]
   (conv=>whnf);repeat' ((first| intro g| refine av.mk _ (tP _) ?_| refine st ?_| (first| refine b1 ?_ ?_| refine b2 ?_ ?_| refine Br.mk ?_ ?_) <;>intro hc| exact rfl) <;>conv=>whnf)
end Go.AM
namespace Go.AM
theorem Nr {x0 x1:Ex} {ev:b5} {v0:Int} {v1:Int} (h0:Ev E 392 [x0.v,ev.v] ⟨.iface 3 (vi v0),[]⟩) (h1:Ev E 392 [x1.v,ev.v] ⟨.iface 3 (vi v1),[]⟩) (nl:Bool):Ev E 392 [(Ex.mk 10 0 aM nl [x0,x1]).v,ev.v] ⟨.iface 3 (vi (dW (oG (v0*v1)))),[]⟩:=by
 have cm:aD E 392=[]:=rfl
 have ei:ev.v= .agg [vi ev.kind,.str ev.cls,.str ev.name,vi ev.weight,vi ev.level,.bool ev.cg,vi ev.scale,vi ev.hour,vi ev.reader]:=rfl
 obtain⟨A0,B0,C0,D0,E0,F0,L0,fB,Ix,fY⟩:=x0.db
 rw[fB,ei] at h0
 obtain⟨A1,B1,C1,D1,E1,F1,L1,fX,Kc,mR⟩:=x1.db
 rw[fX,ei] at h1
 rw[ei,Ex.bN]
 simp only[List.map_cons,List.map_nil,cP,aM,fB,fX]
 refine Ev.aG ju (jv _) rfl ?_
 (conv=>whnf);repeat' ((first| intro g| refine st ?_| (first| refine b1 ?_ ?_| refine b2 ?_ ?_| refine Br.mk ?_ ?_) <;>intro hc| exact rfl) <;>conv=>whnf)
 rename_i ed fh
 refine bj.by (fun ((i,g9):Nat×Nat)=> ⟨[(2,.ptr 48 ed 0 0),(3,.ptr 64 fh 0 0),(5,.sl 97 g9 0 i),(12,.lit 7 [.agg [vi A0,vi B0,vi C0,vi D0,.bool E0,.str F0,L0],.agg [vi A1,vi B1,vi C1,vi D1,.bool E1,.str F1,L1]]),(13,aO 2),(14,aO i)],[(48,⟨ed,7,false,false,some [.agg [vi 10,vi 0,vi 0,vi 0,.bool false,.str [],.lit 7 [.agg [vi A0,vi B0,vi C0,vi D0,.bool E0,.str F0,L0],.agg [vi A1,vi B1,vi C1,vi D1,.bool E1,.str F1,L1]]]]⟩),(64,⟨fh,9,false,false,some [.agg [vi ev.kind,.str ev.cls,.str ev.name,vi ev.weight,vi ev.level,.bool ev.cg,vi ev.scale,vi ev.hour,vi ev.reader]]⟩),(97,⟨g9,1,true,false,some (iV i (.iface 3 (vi v0)) (.iface 3 (vi v1)) (.nili))⟩)]⟩)
   (fun (i,g9)=>i≤2) (fun (i,g9)=>2 - i) (0,g) (by(refine⟨?_,?_⟩ <;>repeat' (first| exact True.intro| refine ai ?_| refine And.intro ?_ ?_))) (by simp) ?_
 rintro⟨i,g9⟩ hi
 try dsimp only at hi
 have gv:i=0∨i=1∨i=2:=by omega
 rcases gv with rfl| rfl| rfl
 · simp only[iV]
   (conv=>whnf);repeat' ((first| intro g| refine aq (by assumption) (by first| assumption| rfl| (simp only[V.ae,V.aj,Bool.and_self,Bool.true_and,Bool.and_true, *])) (h0) rfl ?_| refine st ?_| (first| refine b1 ?_ ?_| refine b2 ?_ ?_| refine Br.mk ?_ ?_) <;>intro hc| exact rfl) <;>conv=>whnf)
   exact bk.mk (1,g) (by first| omega| (dsimp only;omega)) (by omega) (by(refine⟨?_,?_⟩ <;>repeat' (first| exact True.intro| refine ai ?_| refine And.intro ?_ ?_)))
 · simp only[iV]
   (conv=>whnf);repeat' ((first| intro g| refine aq (by assumption) (by first| assumption| rfl| (simp only[V.ae,V.aj,Bool.and_self,Bool.true_and,Bool.and_true, *])) (h1) rfl ?_| refine st ?_| (first| refine b1 ?_ ?_| refine b2 ?_ ?_| refine Br.mk ?_ ?_) <;>intro hc| exact rfl) <;>conv=>whnf)
   exact bk.mk (2,g) (by first| omega| (dsimp only;omega)) (by omega) (by(refine⟨?_,?_⟩ <;>repeat' (first| exact True.intro| refine ai ?_| refine And.intro ?_ ?_)))
 · simp only[iV]
   (conv=>whnf);repeat' ((first| intro g| refine av.mk _ (tP _) ?_| refine st ?_| (first| refine b1 ?_ ?_| refine b2 ?_ ?_| refine Br.mk ?_ ?_) <;>intro hc| exact rfl) <;>conv=>whnf)
end Go.AM
namespace Go.AM
theorem Ns {x0 x1:Ex} {ev:b5} {v0:Int} {v1:Int} (h0:Ev E 392 [x0.v,ev.v] ⟨.iface 3 (vi v0),[]⟩) (h1:Ev E 392 [x1.v,ev.v] ⟨.iface 3 (vi v1),[]⟩) (nl:Bool):Ev E 392 [(Ex.mk 11 0 aM nl [x0,x1]).v,ev.v] ⟨.iface 3 (vi (cH v0 v1)),[]⟩:=by
 have cm:aD E 392=[]:=rfl
 have ei:ev.v= .agg [vi ev.kind,.str ev.cls,.str ev.name,vi ev.weight,vi ev.level,.bool ev.cg,vi ev.scale,vi ev.hour,vi ev.reader]:=rfl
 obtain⟨A0,B0,C0,D0,E0,F0,L0,fB,Ix,fY⟩:=x0.db
 rw[fB,ei] at h0
 obtain⟨A1,B1,C1,D1,E1,F1,L1,fX,Kc,mR⟩:=x1.db
 rw[fX,ei] at h1
 rw[ei,Ex.bN]
 simp only[List.map_cons,List.map_nil,cP,aM,fB,fX]
 refine Ev.aG ju (jv _) rfl ?_
 (conv=>whnf);repeat' ((first| intro g| refine st ?_| (first| refine b1 ?_ ?_| refine b2 ?_ ?_| refine Br.mk ?_ ?_) <;>intro hc| exact rfl) <;>conv=>whnf)
 rename_i ed fh
 refine bj.by (fun ((i,g9):Nat×Nat)=> ⟨[(2,.ptr 48 ed 0 0),(3,.ptr 64 fh 0 0),(5,.sl 97 g9 0 i),(12,.lit 7 [.agg [vi A0,vi B0,vi C0,vi D0,.bool E0,.str F0,L0],.agg [vi A1,vi B1,vi C1,vi D1,.bool E1,.str F1,L1]]),(13,aO 2),(14,aO i)],[(48,⟨ed,7,false,false,some [.agg [vi 11,vi 0,vi 0,vi 0,.bool false,.str [],.lit 7 [.agg [vi A0,vi B0,vi C0,vi D0,.bool E0,.str F0,L0],.agg [vi A1,vi B1,vi C1,vi D1,.bool E1,.str F1,L1]]]]⟩),(64,⟨fh,9,false,false,some [.agg [vi ev.kind,.str ev.cls,.str ev.name,vi ev.weight,vi ev.level,.bool ev.cg,vi ev.scale,vi ev.hour,vi ev.reader]]⟩),(97,⟨g9,1,true,false,some (iV i (.iface 3 (vi v0)) (.iface 3 (vi v1)) (.nili))⟩)]⟩)
   (fun (i,g9)=>i≤2) (fun (i,g9)=>2 - i) (0,g) (by(refine⟨?_,?_⟩ <;>repeat' (first| exact True.intro| refine ai ?_| refine And.intro ?_ ?_))) (by simp) ?_
 rintro⟨i,g9⟩ hi
 try dsimp only at hi
 have gv:i=0∨i=1∨i=2:=by omega
 rcases gv with rfl| rfl| rfl
 · simp only[iV]
   (conv=>whnf);repeat' ((first| intro g| refine aq (by assumption) (by first| assumption| rfl| (simp only[V.ae,V.aj,Bool.and_self,Bool.true_and,Bool.and_true, *])) (h0) rfl ?_| refine st ?_| (first| refine b1 ?_ ?_| refine b2 ?_ ?_| refine Br.mk ?_ ?_) <;>intro hc| exact rfl) <;>conv=>whnf)
   exact bk.mk (1,g) (by first| omega| (dsimp only;omega)) (by omega) (by(refine⟨?_,?_⟩ <;>repeat' (first| exact True.intro| refine ai ?_| refine And.intro ?_ ?_)))
 · simp only[iV]
   (conv=>whnf);repeat' ((first| intro g| refine aq (by assumption) (by first| assumption| rfl| (simp only[V.ae,V.aj,Bool.and_self,Bool.true_and,Bool.and_true, *])) (h1) rfl ?_| refine st ?_| (first| refine b1 ?_ ?_| refine b2 ?_ ?_| refine Br.mk ?_ ?_) <;>intro hc| exact rfl) <;>conv=>whnf)
   exact bk.mk (2,g) (by first| omega| (dsimp only;omega)) (by omega) (by(refine⟨?_,?_⟩ <;>repeat' (first| exact True.intro| refine ai ?_| refine And.intro ?_ ?_)))
 · simp only[iV]
   (conv=>whnf);repeat' ((first| intro g| refine st ?_| (first| refine b1 ?_ ?_| refine b2 ?_ ?_| refine Br.mk ?_ ?_) <;>intro hc| exact rfl) <;>conv=>whnf)
end Go.AM
namespace Go.AM
theorem Nt {x0 x1:Ex} {ev:b5} {v0:Int} {v1:Int} (h0:Ev E 392 [x0.v,ev.v] ⟨.iface 3 (vi v0),[]⟩) (h1:Ev E 392 [x1.v,ev.v] ⟨.iface 3 (vi v1),[]⟩) (nl:Bool):Ev E 392 [(Ex.mk 12 0 aM nl [x0,x1]).v,ev.v] ⟨.iface 3 (vi (imax v0 v1)),[]⟩:=by
 have cm:aD E 392=[]:=rfl
 have ei:ev.v= .agg [vi ev.kind,.str ev.cls,.str ev.name,vi ev.weight,vi ev.level,.bool ev.cg,vi ev.scale,vi ev.hour,vi ev.reader]:=rfl
 obtain⟨A0,B0,C0,D0,E0,F0,L0,fB,Ix,fY⟩:=x0.db
 rw[fB,ei] at h0
 obtain⟨A1,B1,C1,D1,E1,F1,L1,fX,Kc,mR⟩:=x1.db
 rw[fX,ei] at h1
 rw[ei,Ex.bN]
 simp only[List.map_cons,List.map_nil,cP,aM,fB,fX]
 refine Ev.aG ju (jv _) rfl ?_
 (conv=>whnf);repeat' ((first| intro g| refine st ?_| (first| refine b1 ?_ ?_| refine b2 ?_ ?_| refine Br.mk ?_ ?_) <;>intro hc| exact rfl) <;>conv=>whnf)
 rename_i ed fh
 refine bj.by (fun ((i,g9):Nat×Nat)=> ⟨[(2,.ptr 48 ed 0 0),(3,.ptr 64 fh 0 0),(5,.sl 97 g9 0 i),(12,.lit 7 [.agg [vi A0,vi B0,vi C0,vi D0,.bool E0,.str F0,L0],.agg [vi A1,vi B1,vi C1,vi D1,.bool E1,.str F1,L1]]),(13,aO 2),(14,aO i)],[(48,⟨ed,7,false,false,some [.agg [vi 12,vi 0,vi 0,vi 0,.bool false,.str [],.lit 7 [.agg [vi A0,vi B0,vi C0,vi D0,.bool E0,.str F0,L0],.agg [vi A1,vi B1,vi C1,vi D1,.bool E1,.str F1,L1]]]]⟩),(64,⟨fh,9,false,false,some [.agg [vi ev.kind,.str ev.cls,.str ev.name,vi ev.weight,vi ev.level,.bool ev.cg,vi ev.scale,vi ev.hour,vi ev.reader]]⟩),(97,⟨g9,1,true,false,some (iV i (.iface 3 (vi v0)) (.iface 3 (vi v1)) (.nili))⟩)]⟩)
   (fun (i,g9)=>i≤2) (fun (i,g9)=>2 - i) (0,g) (by(refine⟨?_,?_⟩ <;>repeat' (first| exact True.intro| refine ai ?_| refine And.intro ?_ ?_))) (by simp) ?_
 rintro⟨i,g9⟩ hi
 try dsimp only at hi
 have gv:i=0∨i=1∨i=2:=by omega
 rcases gv with rfl| rfl| rfl
 · simp only[iV]
   (conv=>whnf);repeat' ((first| intro g| refine aq (by assumption) (by first| assumption| rfl| (simp only[V.ae,V.aj,Bool.and_self,Bool.true_and,Bool.and_true, *])) (h0) rfl ?_| refine st ?_| (first| refine b1 ?_ ?_| refine b2 ?_ ?_| refine Br.mk ?_ ?_) <;>intro hc| exact rfl) <;>conv=>whnf)
   exact bk.mk (1,g) (by first| omega| (dsimp only;omega)) (by omega) (by(refine⟨?_,?_⟩ <;>repeat' (first| exact True.intro| refine ai ?_| refine And.intro ?_ ?_)))
 · simp only[iV]
   (conv=>whnf);repeat' ((first| intro g| refine aq (by assumption) (by first| assumption| rfl| (simp only[V.ae,V.aj,Bool.and_self,Bool.true_and,Bool.and_true, *])) (h1) rfl ?_| refine st ?_| (first| refine b1 ?_ ?_| refine b2 ?_ ?_| refine Br.mk ?_ ?_) <;>intro hc| exact rfl) <;>conv=>whnf)
   exact bk.mk (2,g) (by first| omega| (dsimp only;omega)) (by omega) (by(refine⟨?_,?_⟩ <;>repeat' (first| exact True.intro| refine ai ?_| refine And.intro ?_ ?_)))
 · simp only[iV]
   (conv=>whnf);repeat' ((first| intro g| refine st ?_| (first| refine b1 ?_ ?_| refine b2 ?_ ?_| refine Br.mk ?_ ?_) <;>intro hc| exact rfl) <;>conv=>whnf)
end Go.AM
namespace Go.AM
theorem Yy {x0 x1 x2:Ex} {ev:b5} {v0:Bool} {v1:Int} {v2:Int} (h0:Ev E 392 [x0.v,ev.v] ⟨.iface 4 (.bool v0),[]⟩) (h1:Ev E 392 [x1.v,ev.v] ⟨.iface 3 (vi v1),[]⟩) (h2:Ev E 392 [x2.v,ev.v] ⟨.iface 3 (vi v2),[]⟩) (nl:Bool):Ev E 392 [(Ex.mk 13 0 aM nl [x0,x1,x2]).v,ev.v] ⟨bif v0 then(.iface 3 (vi v1)) else(.iface 3 (vi v2)),[]⟩:=by
 have cm:aD E 392=[]:=rfl
 have ei:ev.v= .agg [vi ev.kind,.str ev.cls,.str ev.name,vi ev.weight,vi ev.level,.bool ev.cg,vi ev.scale,vi ev.hour,vi ev.reader]:=rfl
 obtain⟨A0,B0,C0,D0,E0,F0,L0,fB,Ix,fY⟩:=x0.db
 rw[fB,ei] at h0
 obtain⟨A1,B1,C1,D1,E1,F1,L1,fX,Kc,mR⟩:=x1.db
 rw[fX,ei] at h1
 obtain⟨A2,B2,C2,D2,E2,F2,L2,mn,hL2,xM⟩:=x2.db
 rw[mn,ei] at h2
 rw[ei,Ex.bN]
 simp only[List.map_cons,List.map_nil,cP,aM,fB,fX,mn]
 refine Ev.aG ju (jv _) rfl ?_
 (conv=>whnf);repeat' ((first| intro g| refine st ?_| (first| refine b1 ?_ ?_| refine b2 ?_ ?_| refine Br.mk ?_ ?_) <;>intro hc| exact rfl) <;>conv=>whnf)
 rename_i ed fh
 refine bj.by (fun ((i,g9):Nat×Nat)=> ⟨[(2,.ptr 48 ed 0 0),(3,.ptr 64 fh 0 0),(5,.sl 97 g9 0 i),(12,.lit 7 [.agg [vi A0,vi B0,vi C0,vi D0,.bool E0,.str F0,L0],.agg [vi A1,vi B1,vi C1,vi D1,.bool E1,.str F1,L1],.agg [vi A2,vi B2,vi C2,vi D2,.bool E2,.str F2,L2]]),(13,aO 3),(14,aO i)],[(48,⟨ed,7,false,false,some [.agg [vi 13,vi 0,vi 0,vi 0,.bool false,.str [],.lit 7 [.agg [vi A0,vi B0,vi C0,vi D0,.bool E0,.str F0,L0],.agg [vi A1,vi B1,vi C1,vi D1,.bool E1,.str F1,L1],.agg [vi A2,vi B2,vi C2,vi D2,.bool E2,.str F2,L2]]]]⟩),(64,⟨fh,9,false,false,some [.agg [vi ev.kind,.str ev.cls,.str ev.name,vi ev.weight,vi ev.level,.bool ev.cg,vi ev.scale,vi ev.hour,vi ev.reader]]⟩),(97,⟨g9,1,true,false,some (iV i (.iface 4 (.bool v0)) (.iface 3 (vi v1)) (.iface 3 (vi v2)))⟩)]⟩)
   (fun (i,g9)=>i≤3) (fun (i,g9)=>3 - i) (0,g) (by(refine⟨?_,?_⟩ <;>repeat' (first| exact True.intro| refine ai ?_| refine And.intro ?_ ?_))) (by simp) ?_
 rintro⟨i,g9⟩ hi
 try dsimp only at hi
 have gv:i=0∨i=1∨i=2∨i=3:=by omega
 rcases gv with rfl| rfl| rfl| rfl
 · simp only[iV]
   (conv=>whnf);repeat' ((first| intro g| refine aq (by assumption) (by first| assumption| rfl| (simp only[V.ae,V.aj,Bool.and_self,Bool.true_and,Bool.and_true, *])) (h0) rfl ?_| refine st ?_| (first| refine b1 ?_ ?_| refine b2 ?_ ?_| refine Br.mk ?_ ?_) <;>intro hc| exact rfl) <;>conv=>whnf)
   exact bk.mk (1,g) (by first| omega| (dsimp only;omega)) (by omega) (by(refine⟨?_,?_⟩ <;>repeat' (first| exact True.intro| refine ai ?_| refine And.intro ?_ ?_)))
 · simp only[iV]
   (conv=>whnf);repeat' ((first| intro g| refine aq (by assumption) (by first| assumption| rfl| (simp only[V.ae,V.aj,Bool.and_self,Bool.true_and,Bool.and_true, *])) (h1) rfl ?_| refine st ?_| (first| refine b1 ?_ ?_| refine b2 ?_ ?_| refine Br.mk ?_ ?_) <;>intro hc| exact rfl) <;>conv=>whnf)
   exact bk.mk (2,g) (by first| omega| (dsimp only;omega)) (by omega) (by(refine⟨?_,?_⟩ <;>repeat' (first| exact True.intro| refine ai ?_| refine And.intro ?_ ?_)))
 · simp only[iV]
   (conv=>whnf);repeat' ((first| intro g| refine aq (by assumption) (by first| assumption| rfl| (simp only[V.ae,V.aj,Bool.and_self,Bool.true_and,Bool.and_true, *])) (h2) rfl ?_| refine st ?_| (first| refine b1 ?_ ?_| refine b2 ?_ ?_| refine Br.mk ?_ ?_) <;>intro hc| exact rfl) <;>conv=>whnf)
   exact bk.mk (3,g) (by first| omega| (dsimp only;omega)) (by omega) (by(refine⟨?_,?_⟩ <;>repeat' (first| exact True.intro| refine ai ?_| refine And.intro ?_ ?_)))
 · simp only[iV]
   cases v0
   all_goals (conv=>whnf);repeat' ((first| intro g| refine st ?_| (first| refine b1 ?_ ?_| refine b2 ?_ ?_| refine Br.mk ?_ ?_) <;>intro hc| exact rfl) <;>conv=>whnf)
end Go.AM
namespace Go.AM
theorem Yz {x0 x1 x2:Ex} {ev:b5} {v0:Bool} {v1:Bool} {v2:Bool} (h0:Ev E 392 [x0.v,ev.v] ⟨.iface 4 (.bool v0),[]⟩) (h1:Ev E 392 [x1.v,ev.v] ⟨.iface 4 (.bool v1),[]⟩) (h2:Ev E 392 [x2.v,ev.v] ⟨.iface 4 (.bool v2),[]⟩) (nl:Bool):Ev E 392 [(Ex.mk 13 0 aM nl [x0,x1,x2]).v,ev.v] ⟨bif v0 then(.iface 4 (.bool v1)) else(.iface 4 (.bool v2)),[]⟩:=by
 have cm:aD E 392=[]:=rfl
 have ei:ev.v= .agg [vi ev.kind,.str ev.cls,.str ev.name,vi ev.weight,vi ev.level,.bool ev.cg,vi ev.scale,vi ev.hour,vi ev.reader]:=rfl
 obtain⟨A0,B0,C0,D0,E0,F0,L0,fB,Ix,fY⟩:=x0.db
 rw[fB,ei] at h0
 obtain⟨A1,B1,C1,D1,E1,F1,L1,fX,Kc,mR⟩:=x1.db
 rw[fX,ei] at h1
 obtain⟨A2,B2,C2,D2,E2,F2,L2,mn,hL2,xM⟩:=x2.db
 rw[mn,ei] at h2
 rw[ei,Ex.bN]
 simp only[List.map_cons,List.map_nil,cP,aM,fB,fX,mn]
 refine Ev.aG ju (jv _) rfl ?_
 (conv=>whnf);repeat' ((first| intro g| refine st ?_| (first| refine b1 ?_ ?_| refine b2 ?_ ?_| refine Br.mk ?_ ?_) <;>intro hc| exact rfl) <;>conv=>whnf)
 rename_i ed fh
 refine bj.by (fun ((i,g9):Nat×Nat)=> ⟨[(2,.ptr 48 ed 0 0),(3,.ptr 64 fh 0 0),(5,.sl 97 g9 0 i),(12,.lit 7 [.agg [vi A0,vi B0,vi C0,vi D0,.bool E0,.str F0,L0],.agg [vi A1,vi B1,vi C1,vi D1,.bool E1,.str F1,L1],.agg [vi A2,vi B2,vi C2,vi D2,.bool E2,.str F2,L2]]),(13,aO 3),(14,aO i)],[(48,⟨ed,7,false,false,some [.agg [vi 13,vi 0,vi 0,vi 0,.bool false,.str [],.lit 7 [.agg [vi A0,vi B0,vi C0,vi D0,.bool E0,.str F0,L0],.agg [vi A1,vi B1,vi C1,vi D1,.bool E1,.str F1,L1],.agg [vi A2,vi B2,vi C2,vi D2,.bool E2,.str F2,L2]]]]⟩),(64,⟨fh,9,false,false,some [.agg [vi ev.kind,.str ev.cls,.str ev.name,vi ev.weight,vi ev.level,.bool ev.cg,vi ev.scale,vi ev.hour,vi ev.reader]]⟩),(97,⟨g9,1,true,false,some (iV i (.iface 4 (.bool v0)) (.iface 4 (.bool v1)) (.iface 4 (.bool v2)))⟩)]⟩)
   (fun (i,g9)=>i≤3) (fun (i,g9)=>3 - i) (0,g) (by(refine⟨?_,?_⟩ <;>repeat' (first| exact True.intro| refine ai ?_| refine And.intro ?_ ?_))) (by simp) ?_
 rintro⟨i,g9⟩ hi
 try dsimp only at hi
 have gv:i=0∨i=1∨i=2∨i=3:=by omega
 rcases gv with rfl| rfl| rfl| rfl
 · simp only[iV]
   (conv=>whnf);repeat' ((first| intro g| refine aq (by assumption) (by first| assumption| rfl| (simp only[V.ae,V.aj,Bool.and_self,Bool.true_and,Bool.and_true, *])) (h0) rfl ?_| refine st ?_| (first| refine b1 ?_ ?_| refine b2 ?_ ?_| refine Br.mk ?_ ?_) <;>intro hc| exact rfl) <;>conv=>whnf)
   exact bk.mk (1,g) (by first| omega| (dsimp only;omega)) (by omega) (by(refine⟨?_,?_⟩ <;>repeat' (first| exact True.intro| refine ai ?_| refine And.intro ?_ ?_)))
 · simp only[iV]
   (conv=>whnf);repeat' ((first| intro g| refine aq (by assumption) (by first| assumption| rfl| (simp only[V.ae,V.aj,Bool.and_self,Bool.true_and,Bool.and_true, *])) (h1) rfl ?_| refine st ?_| (first| refine b1 ?_ ?_| refine b2 ?_ ?_| refine Br.mk ?_ ?_) <;>intro hc| exact rfl) <;>conv=>whnf)
   exact bk.mk (2,g) (by first| omega| (dsimp only;omega)) (by omega) (by(refine⟨?_,?_⟩ <;>repeat' (first| exact True.intro| refine ai ?_| refine And.intro ?_ ?_)))
 · simp only[iV]
   (conv=>whnf);repeat' ((first| intro g| refine aq (by assumption) (by first| assumption| rfl| (simp only[V.ae,V.aj,Bool.and_self,Bool.true_and,Bool.and_true, *])) (h2) rfl ?_| refine st ?_| (first| refine b1 ?_ ?_| refine b2 ?_ ?_| refine Br.mk ?_ ?_) <;>intro hc| exact rfl) <;>conv=>whnf)
   exact bk.mk (3,g) (by first| omega| (dsimp only;omega)) (by omega) (by(refine⟨?_,?_⟩ <;>repeat' (first| exact True.intro| refine ai ?_| refine And.intro ?_ ?_)))
 · simp only[iV]
   cases v0
   all_goals (conv=>whnf);repeat' ((first| intro g| refine st ?_| (first| refine b1 ?_ ?_| refine b2 ?_ ?_| refine Br.mk ?_ ?_) <;>intro hc| exact rfl) <;>conv=>whnf)
end Go.AM
namespace Go.AM
theorem YA {x0 x1 x2:Ex} {ev:b5} {v0:Bool} {v1:dE} {v2:dE} (h0:Ev E 392 [x0.v,ev.v] ⟨.iface 4 (.bool v0),[]⟩) (h1:Ev E 392 [x1.v,ev.v] ⟨.iface 9 (.str v1),[]⟩) (h2:Ev E 392 [x2.v,ev.v] ⟨.iface 9 (.str v2),[]⟩) (nl:Bool):Ev E 392 [(Ex.mk 13 0 aM nl [x0,x1,x2]).v,ev.v] ⟨bif v0 then(.iface 9 (.str v1)) else(.iface 9 (.str v2)),[]⟩:=by
 have cm:aD E 392=[]:=rfl
 have ei:ev.v= .agg [vi ev.kind,.str ev.cls,.str ev.name,vi ev.weight,vi ev.level,.bool ev.cg,vi ev.scale,vi ev.hour,vi ev.reader]:=rfl
 obtain⟨A0,B0,C0,D0,E0,F0,L0,fB,Ix,fY⟩:=x0.db
 rw[fB,ei] at h0
 obtain⟨A1,B1,C1,D1,E1,F1,L1,fX,Kc,mR⟩:=x1.db
 rw[fX,ei] at h1
 obtain⟨A2,B2,C2,D2,E2,F2,L2,mn,hL2,xM⟩:=x2.db
 rw[mn,ei] at h2
 rw[ei,Ex.bN]
 simp only[List.map_cons,List.map_nil,cP,aM,fB,fX,mn]
 refine Ev.aG ju (jv _) rfl ?_
 (conv=>whnf);repeat' ((first| intro g| refine st ?_| (first| refine b1 ?_ ?_| refine b2 ?_ ?_| refine Br.mk ?_ ?_) <;>intro hc| exact rfl) <;>conv=>whnf)
 rename_i ed fh
 refine bj.by (fun ((i,g9):Nat×Nat)=> ⟨[(2,.ptr 48 ed 0 0),(3,.ptr 64 fh 0 0),(5,.sl 97 g9 0 i),(12,.lit 7 [.agg [vi A0,vi B0,vi C0,vi D0,.bool E0,.str F0,L0],.agg [vi A1,vi B1,vi C1,vi D1,.bool E1,.str F1,L1],.agg [vi A2,vi B2,vi C2,vi D2,.bool E2,.str F2,L2]]),(13,aO 3),(14,aO i)],[(48,⟨ed,7,false,false,some [.agg [vi 13,vi 0,vi 0,vi 0,.bool false,.str [],.lit 7 [.agg [vi A0,vi B0,vi C0,vi D0,.bool E0,.str F0,L0],.agg [vi A1,vi B1,vi C1,vi D1,.bool E1,.str F1,L1],.agg [vi A2,vi B2,vi C2,vi D2,.bool E2,.str F2,L2]]]]⟩),(64,⟨fh,9,false,false,some [.agg [vi ev.kind,.str ev.cls,.str ev.name,vi ev.weight,vi ev.level,.bool ev.cg,vi ev.scale,vi ev.hour,vi ev.reader]]⟩),(97,⟨g9,1,true,false,some (iV i (.iface 4 (.bool v0)) (.iface 9 (.str v1)) (.iface 9 (.str v2)))⟩)]⟩)
   (fun (i,g9)=>i≤3) (fun (i,g9)=>3 - i) (0,g) (by(refine⟨?_,?_⟩ <;>repeat' (first| exact True.intro| refine ai ?_| refine And.intro ?_ ?_))) (by simp) ?_
 rintro⟨i,g9⟩ hi
 try dsimp only at hi
 have gv:i=0∨i=1∨i=2∨i=3:=by omega
 rcases gv with rfl| rfl| rfl| rfl
 · simp only[iV]
   (conv=>whnf);repeat' ((first| intro g| refine aq (by assumption) (by first| assumption| rfl| (simp only[V.ae,V.aj,Bool.and_self,Bool.true_and,Bool.and_true, *])) (h0) rfl ?_| refine st ?_| (first| refine b1 ?_ ?_| refine b2 ?_ ?_| refine Br.mk ?_ ?_) <;>intro hc| exact rfl) <;>conv=>whnf)
   exact bk.mk (1,g) (by first| omega| (dsimp only;omega)) (by omega) (by(refine⟨?_,?_⟩ <;>repeat' (first| exact True.intro| refine ai ?_| refine And.intro ?_ ?_)))
 · simp only[iV]
   (conv=>whnf);repeat' ((first| intro g| refine aq (by assumption) (by first| assumption| rfl| (simp only[V.ae,V.aj,Bool.and_self,Bool.true_and,Bool.and_true, *])) (h1) rfl ?_| refine st ?_| (first| refine b1 ?_ ?_| refine b2 ?_ ?_| refine Br.mk ?_ ?_) <;>intro hc| exact rfl) <;>conv=>whnf)
   exact bk.mk (2,g) (by first| omega| (dsimp only;omega)) (by omega) (by(refine⟨?_,?_⟩ <;>repeat' (first| exact True.intro| refine ai ?_| refine And.intro ?_ ?_)))
 · simp only[iV]
   (conv=>whnf);repeat' ((first| intro g| refine aq (by assumption) (by first| assumption| rfl| (simp only[V.ae,V.aj,Bool.and_self,Bool.true_and,Bool.and_true, *])) (h2) rfl ?_| refine st ?_| (first| refine b1 ?_ ?_| refine b2 ?_ ?_| refine Br.mk ?_ ?_) <;>intro hc| exact rfl) <;>conv=>whnf)
   exact bk.mk (3,g) (by first| omega| (dsimp only;omega)) (by omega) (by(refine⟨?_,?_⟩ <;>repeat' (first| exact True.intro| refine ai ?_| refine And.intro ?_ ?_)))
 · simp only[iV]
   cases v0
   all_goals (conv=>whnf);repeat' ((first| intro g| refine st ?_| (first| refine b1 ?_ ?_| refine b2 ?_ ?_| refine Br.mk ?_ ?_) <;>intro hc| exact rfl) <;>conv=>whnf)
end Go.AM
namespace Go.AM
theorem lf (x:b5) (e:Ex) (h:e.b4≠0): (e.b4=1∧ ∃n,e.eval x=⟨1,n,false,[]⟩)∨(e.b4=2∧ ∃b,e.eval x=⟨2,0,b,[]⟩)∨(e.b4=3∧ ∃s,e.eval x=⟨3,0,false,s⟩):=by
 have:=xW (K:=aH []) (x:=x) (C4 []) (fun v hv=>It (l:=[]) rfl v hv) e.size e (Nat.le_refl _) h
 rcases this with⟨h1,n,h2,_⟩ | ⟨h1,n,h2,_⟩ | ⟨h1,n,h2,_⟩
 · exact .inl ⟨h1,n,h2⟩
 · exact .inr (.inl ⟨h1,n,h2⟩)
 · exact .inr (.inr ⟨h1,n,h2⟩)
theorem uZ {x:b5} {e:Ex} (h:e.b4=1): ∃n,e.eval x=⟨1,n,false,[]⟩:=by
 rcases lf x e (by omega) with⟨_,h1⟩ | ⟨h2,_⟩ | ⟨h2,_⟩
 · exact h1
 · omega
 · omega
theorem iW {x:b5} {e:Ex} (h:e.b4=2): ∃n,e.eval x=⟨2,0,n,[]⟩:=by
 rcases lf x e (by omega) with⟨h2,_⟩ | ⟨_,h1⟩ | ⟨h2,_⟩
 · omega
 · exact h1
 · omega
theorem Fh {x:b5} {e:Ex} (h:e.b4=3): ∃n,e.eval x=⟨3,0,false,n⟩:=by
 rcases lf x e (by omega) with⟨h2,_⟩ | ⟨h2,_⟩ | ⟨_,h1⟩
 · omega
 · omega
 · exact h1
theorem Iy (ev:b5): ∀ (k:Nat) (e:Ex),e.size≤k→e.b4≠0→e.Fit→Ev E 392 [e.v,ev.v] ⟨mc (e.eval ev),[]⟩
 | 0,e,hk,_,_=>by have:=e.size_pos;omega
 | k+1,.mk op var val nl l,hk,ht,hf=>by
   have ih:=Iy ev k
   have Dg:=hf.mem
   simp only[Ex.size] at hk
   rcases eT ht with⟨rfl,rfl,rfl,hr,hT⟩ | ⟨rfl,rfl,rfl,hv,hT⟩ | ⟨y,rfl,rfl,rfl,rfl,hx,hT⟩ | ⟨y,z,ho,rfl,rfl,rfl,hx,hy,hT3,h6,HK,h7,h8⟩ | ⟨y,z,w,rfl,rfl,rfl,rfl,hx,hy,hz,hT⟩
   · exact afn ev val nl hr hf.val
   · exact afm ev var nl
   · simp only[Ex.bK] at hk
     have e1:=ih y (by omega) (by omega) (Dg y (by simp))
     obtain⟨p,hp⟩:=iW (x:=ev) hx
     rw[hp] at e1
     rw[Ex.eval_eq,List.map_cons,List.map_nil,hp]
     exact afo e1 nl
   · simp only[Ex.bK] at hk
     have e1:=ih y (by omega) hx (Dg y (by simp))
     have e2:=ih z (by omega) hy (Dg z (by simp))
     rw[Ex.eval_eq,List.map_cons,List.map_cons,List.map_nil]
     have vB:op=4∨op=5∨op=6∨op=7∨op=8∨op=9∨op=10∨op=11∨op=12:=by omega
     have num:8≤op∨op=7→ ∃n m,y.eval ev=⟨1,n,false,[]⟩∧z.eval ev=⟨1,m,false,[]⟩:=by
       intro h
       have hh:y.b4=1∧z.b4=1:=by
         rcases h with h| h
         · have:=h8 h;exact⟨this.1,this.2.1⟩
         · have:=h7 h;exact⟨this.1,this.2.1⟩
       obtain⟨n,hn⟩:=uZ (x:=ev) hh.1
       obtain⟨m,hm⟩:=uZ (x:=ev) hh.2
       exact⟨n,m,hn,hm⟩
     rcases vB with rfl| rfl| rfl| rfl| rfl| rfl| rfl| rfl| rfl
     · obtain⟨t1,t2,_⟩:=HK (.inl rfl)
       obtain⟨p,hp⟩:=iW (x:=ev) t1
       obtain⟨q,hq⟩:=iW (x:=ev) t2
       rw[hp] at e1 ⊢;rw[hq] at e2 ⊢
       exact Qz e1 e2 nl
     · obtain⟨t1,t2,_⟩:=HK (.inr rfl)
       obtain⟨p,hp⟩:=iW (x:=ev) t1
       obtain⟨q,hq⟩:=iW (x:=ev) t2
       rw[hp] at e1 ⊢;rw[hq] at e2 ⊢
       exact QA e1 e2 nl
     · obtain⟨t1,_⟩:=h6 rfl
       rcases lf ev y hx with⟨t2,p,hp⟩ | ⟨t2,p,hp⟩ | ⟨t2,p,hp⟩
       · obtain⟨q,hq⟩:=uZ (x:=ev) (e:=z) (by omega)
         rw[hp] at e1 ⊢;rw[hq] at e2 ⊢
         have h:=QB e1 e2 nl
         have e:mc (mC ev 6 0 aM [⟨1,p,false,[]⟩,⟨1,q,false,[]⟩])= .iface 4 (.bool (p==q)):=by
          have:rv ⟨1,p,false,[]⟩ ⟨1,q,false,[]⟩=(p==q):=by simp[rv];rfl
          show V.iface 4 (.bool (rv ⟨1,p,false,[]⟩ ⟨1,q,false,[]⟩))=_
          rw[this]
         rw[e];exact h
       · obtain⟨q,hq⟩:=iW (x:=ev) (e:=z) (by omega)
         rw[hp] at e1 ⊢;rw[hq] at e2 ⊢
         have h:=QC e1 e2 nl
         have e:mc (mC ev 6 0 aM [⟨2,0,p,[]⟩,⟨2,0,q,[]⟩])= .iface 4 (.bool (p==q)):=by
          have:rv ⟨2,0,p,[]⟩ ⟨2,0,q,[]⟩=(p==q):=by simp[rv]
          show V.iface 4 (.bool (rv ⟨2,0,p,[]⟩ ⟨2,0,q,[]⟩))=_
          rw[this]
         rw[e];exact h
       · obtain⟨q,hq⟩:=Fh (x:=ev) (e:=z) (by omega)
         rw[hp] at e1 ⊢;rw[hq] at e2 ⊢
         have h:=QD e1 e2 nl
         have e:mc (mC ev 6 0 aM [⟨3,0,false,p⟩,⟨3,0,false,q⟩])= .iface 4 (.bool (decide (p=q))):=by
          have:rv ⟨3,0,false,p⟩ ⟨3,0,false,q⟩=decide (p=q):=by simp[rv]
          show V.iface 4 (.bool (rv ⟨3,0,false,p⟩ ⟨3,0,false,q⟩))=_
          rw[this]
         rw[e];exact h
     · obtain⟨n,m,hp,hq⟩:=num (.inr rfl)
       rw[hp] at e1 ⊢;rw[hq] at e2 ⊢
       exact QE e1 e2 nl
     · obtain⟨n,m,hp,hq⟩:=num (.inl (by decide))
       rw[hp] at e1 ⊢;rw[hq] at e2 ⊢
       exact QF e1 e2 nl
     · obtain⟨n,m,hp,hq⟩:=num (.inl (by decide))
       rw[hp] at e1 ⊢;rw[hq] at e2 ⊢
       exact QG e1 e2 nl
     · obtain⟨n,m,hp,hq⟩:=num (.inl (by decide))
       rw[hp] at e1 ⊢;rw[hq] at e2 ⊢
       exact Nr e1 e2 nl
     · obtain⟨n,m,hp,hq⟩:=num (.inl (by decide))
       rw[hp] at e1 ⊢;rw[hq] at e2 ⊢
       exact Ns e1 e2 nl
     · obtain⟨n,m,hp,hq⟩:=num (.inl (by decide))
       rw[hp] at e1 ⊢;rw[hq] at e2 ⊢
       exact Nt e1 e2 nl
   · simp only[Ex.bK] at hk
     have e1:=ih y (by omega) (by omega) (Dg y (by simp))
     have e2:=ih z (by omega) hy (Dg z (by simp))
     have e3:=ih w (by omega) (by omega) (Dg w (by simp))
     obtain⟨p,hp⟩:=iW (x:=ev) hx
     rw[Ex.eval_eq,List.map_cons,List.map_cons,List.map_cons,List.map_nil,hp]
     rw[hp] at e1
     rcases lf ev z hy with⟨t2,q,hq⟩ | ⟨t2,q,hq⟩ | ⟨t2,q,hq⟩
     · obtain⟨r,hr⟩:=uZ (x:=ev) (e:=w) (by omega)
       rw[hq] at e2 ⊢;rw[hr] at e3 ⊢
       have h:=Yy e1 e2 e3 nl
       cases p<;>exact h
     · obtain⟨r,hr⟩:=iW (x:=ev) (e:=w) (by omega)
       rw[hq] at e2 ⊢;rw[hr] at e3 ⊢
       have h:=Yz e1 e2 e3 nl
       cases p<;>exact h
     · obtain⟨r,hr⟩:=Fh (x:=ev) (e:=w) (by omega)
       rw[hq] at e2 ⊢;rw[hr] at e3 ⊢
       have h:=YA e1 e2 e3 nl
       cases p<;>exact h
theorem Nu {v:Va} (h: (∃n,v=⟨1,n,false,[]⟩)∨(∃b,v=⟨2,0,b,[]⟩)∨(∃s,v=⟨3,0,false,s⟩)):Ev E 391 [mc v] ⟨v.v,[]⟩:=by
 rcases h with⟨n,rfl⟩ | ⟨n,rfl⟩ | ⟨n,rfl⟩
 · exact jb n
 · exact tT n
 · exact pF n
theorem M4 (ev:b5) (e:Ex) (he:e.err=0) (hf:e.Fit):Ev E 348 [e.v,ev.v] ⟨.tuple [(e.eval ev).v,vi 0],[]⟩:=by
 have cJ:e.size≤60∧e.b4≠0:=by
  unfold Ex.err at he
  split at he
  · exact absurd he (by decide)
  · split at he
    · exact absurd he (by decide)
    · exact⟨by omega,by assumption⟩
 have dj:=kS e (by omega) hf
 have ei:=Iy ev e.size e (Nat.le_refl _) cJ.2 hf
 have HP: (∃n,e.eval ev=⟨1,n,false,[]⟩)∨(∃b,e.eval ev=⟨2,0,b,[]⟩)∨(∃s,e.eval ev=⟨3,0,false,s⟩):=by
  rcases lf ev e cJ.2 with⟨_,h⟩ | ⟨_,h⟩ | ⟨_,h⟩
  · exact .inl h
  · exact .inr (.inl h)
  · exact .inr (.inr h)
 have hw:=Nu HP
 have hp:=nz (e.eval ev)
 rw[he] at dj
 generalize e.ty=t at dj
 generalize mc (e.eval ev)=iv at*
 generalize e.eval ev=w at*
 have cm:aD E 391=[]:=rfl
 have gR:aD E 392=[]:=rfl
 have lX:aD E 338=[]:=rfl
 have B9:V.ae [iv]=true:=by simp[V.ae,hp]
 obtain⟨a,b,c,d,e',f,L,hv,vR⟩:=e.br
 rw[hv] at dj ei ⊢
 have gD:ev.v= .agg [vi ev.kind,.str ev.cls,.str ev.name,vi ev.weight,vi ev.level,.bool ev.cg,vi ev.scale,vi ev.hour,vi ev.reader]:=rfl
 rw[gD] at ei ⊢
 have fS:V.ae [.agg [vi a,vi b,vi c,vi d,.bool e',.str f,L]]=true:=by simp only[V.ae,vR,Bool.and_self]
 have yS:V.ae [.agg [vi a,vi b,vi c,vi d,.bool e',.str f,L],.agg [vi ev.kind,.str ev.cls,.str ev.name,vi ev.weight,vi ev.level,.bool ev.cg,vi ev.scale,vi ev.hour,vi ev.reader]]=true:=by
  simp only[V.ae,vR,Bool.true_and];rfl
 simp only[Va.v] at hw ⊢
 refine Ev.aG KT (KU _) rfl ?_
 (conv=>whnf);repeat' ((first| intro g| refine st ?_| (first| refine b1 ?_ ?_| refine b2 ?_ ?_| refine Br.mk ?_ ?_) <;>intro hc| exact rfl| refine aq lX fS dj rfl ?_| refine aq gR yS ei hp ?_| refine aq cm B9 hw rfl ?_) <;>conv=>whnf)
end Go.AM
