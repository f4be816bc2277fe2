/-
  Texts of the proof: PEvA, PEvn, PEvo4b, PEvo5b, PEvo6i, PEvo6b, PEvo6s, PEvo7i.
-/
import Derived.Test.YtjmcpijpclfakaaGreatVa
import Derived.Test.YtjmcpijpclfakaaGreatF
set_option maxRecDepth 20000
set_option maxHeartbeats 4000000
set_option linter.unusedSimpArgs false
set_option linter.unusedVariables false
namespace Go.AM
def iV:Nat→V→V→V→List V
 | 0,_,_,_=> []
 | 1,x,_,_=> [x]
 | 2,x,y,_=> [x,y]
 | _+3,x,y,z=> [x,y,z]
theorem afm (x:b5) (v:Int) (nl:Bool):Ev E 392 [(Ex.mk 2 v aM nl []).v,x.v] ⟨mc (x.val v),[]⟩:=by
 have h:=pH x v
 have hp:=nz (x.val v)
 generalize mc (x.val v)=iv at*
 have cm:aD E 405=[]:=rfl
 rw[Ex.bN]
 simp only[b5.v] at h ⊢
 cases nl<;>simp only[List.map_nil,lv,cond_true,cond_false,aM]
 all_goals
  refine Ev.aG ju (jv _) rfl ?_
  (conv=>whnf);repeat' ((first| intro g| refine st ?_| (first| refine b1 ?_ ?_| refine b2 ?_ ?_| refine Br.mk ?_ ?_) <;>intro hc| exact rfl) <;>conv=>whnf)
  rename_i ed fh
  refine bj.by (fun (i:Nat)=> ⟨[(2,.ptr 48 ed 0 0),(3,.ptr 64 fh 0 0),(5,.sl 97 g 0 0),(13,aO 0),(14,aO 0)],[(48,⟨ed,7,false,false,some [_]⟩),(64,⟨fh,9,false,false,some [_]⟩),(97,⟨g,1,true,false,some []⟩)]⟩) (fun i=>i=0) (fun _=>0) 0 (by(refine⟨?_,?_⟩ <;>repeat' (first| exact True.intro| refine ai ?_| refine And.intro ?_ ?_))) rfl ?_
  rintro i rfl
  (conv=>whnf);repeat' ((first| intro g| refine st ?_| (first| refine b1 ?_ ?_| refine b2 ?_ ?_| refine Br.mk ?_ ?_) <;>intro hc| exact rfl| ((refine av.mk _ h ?_;simp only[cM,bC,hp,cond_true,List.append_nil]))) <;>conv=>whnf)
  all_goals simp only[hp]
  all_goals (conv=>whnf);repeat' ((first| intro g| refine st ?_| (first| refine b1 ?_ ?_| refine b2 ?_ ?_| refine Br.mk ?_ ?_) <;>intro hc| exact rfl) <;>conv=>whnf)
theorem Yx {v:Va} (hr:v.right=true):v.NW=mc v:=by
 unfold Va.NW mc
 rw[if_pos hr]
 split
 · rfl
 · split
   · rfl
   · rw[if_pos (by have:=uh hr;omega)]
theorem afn (x:b5) (val:Va) (nl:Bool) (hr:val.right=true) (hlen:val.s.length< 4611686018427387904):Ev E 392 [(Ex.mk 1 0 val nl []).v,x.v] ⟨mc val,[]⟩:=by
 have h:=AL val hlen
 rw[Yx hr] at h
 have hp:=nz val
 simp only[Va.v] at h
 generalize mc val=iv at*
 have cm:aD E 404=[]:=rfl
 rw[Ex.bN]
 simp only[b5.v] at h ⊢
 cases nl<;>simp only[List.map_nil,lv,cond_true,cond_false]
 all_goals
  refine Ev.aG ju (jv _) rfl ?_
  (conv=>whnf);repeat' ((first| intro g| refine st ?_| (first| refine b1 ?_ ?_| refine b2 ?_ ?_| refine Br.mk ?_ ?_) <;>intro hc| exact rfl) <;>conv=>whnf)
  rename_i ed fh
  refine bj.by (fun (i:Nat)=> ⟨[(2,.ptr 48 ed 0 0),(3,.ptr 64 fh 0 0),(5,.sl 97 g 0 0),(13,aO 0),(14,aO 0)],[(48,⟨ed,7,false,false,some [_]⟩),(64,⟨fh,9,false,false,some [_]⟩),(97,⟨g,1,true,false,some []⟩)]⟩) (fun i=>i=0) (fun _=>0) 0 (by(refine⟨?_,?_⟩ <;>repeat' (first| exact True.intro| refine ai ?_| refine And.intro ?_ ?_))) rfl ?_
  rintro i rfl
  (conv=>whnf);repeat' ((first| intro g| refine st ?_| (first| refine b1 ?_ ?_| refine b2 ?_ ?_| refine Br.mk ?_ ?_) <;>intro hc| exact rfl| ((refine av.mk _ h ?_;simp only[cM,bC,hp,cond_true,List.append_nil]))) <;>conv=>whnf)
  all_goals simp only[hp]
  all_goals (conv=>whnf);repeat' ((first| intro g| refine st ?_| (first| refine b1 ?_ ?_| refine b2 ?_ ?_| refine Br.mk ?_ ?_) <;>intro hc| exact rfl) <;>conv=>whnf)
end Go.AM
namespace Go.AM
theorem afo {x0:Ex} {ev:b5} {v0:Bool} (h0:Ev E 392 [x0.v,ev.v] ⟨.iface 4 (.bool v0),[]⟩) (nl:Bool):Ev E 392 [(Ex.mk 3 0 aM nl [x0]).v,ev.v] ⟨.iface 4 (.bool (!v0)),[]⟩:=by
 have cm:aD E 392=[]:=rfl
 have ei:ev.v= .agg [vi ev.kind,.str ev.cls,.str ev.name,vi ev.weight,vi ev.level,.bool ev.cg,vi ev.scale,vi ev.hour,vi ev.reader]:=rfl
 obtain⟨A0,B0,C0,D0,E0,F0,L0,fB,Ix,fY⟩:=x0.db
 rw[fB,ei] at h0
 rw[ei,Ex.bN]
 simp only[List.map_cons,List.map_nil,cP,aM,fB]
 refine Ev.aG ju (jv _) rfl ?_
 (conv=>whnf);repeat' ((first| intro g| refine st ?_| (first| refine b1 ?_ ?_| refine b2 ?_ ?_| refine Br.mk ?_ ?_) <;>intro hc| exact rfl) <;>conv=>whnf)
 rename_i ed fh
 refine bj.by (fun ((i,g9):Nat×Nat)=> ⟨[(2,.ptr 48 ed 0 0),(3,.ptr 64 fh 0 0),(5,.sl 97 g9 0 i),(12,.lit 7 [.agg [vi A0,vi B0,vi C0,vi D0,.bool E0,.str F0,L0]]),(13,aO 1),(14,aO i)],[(48,⟨ed,7,false,false,some [.agg [vi 3,vi 0,vi 0,vi 0,.bool false,.str [],.lit 7 [.agg [vi A0,vi B0,vi C0,vi D0,.bool E0,.str F0,L0]]]]⟩),(64,⟨fh,9,false,false,some [.agg [vi ev.kind,.str ev.cls,.str ev.name,vi ev.weight,vi ev.level,.bool ev.cg,vi ev.scale,vi ev.hour,vi ev.reader]]⟩),(97,⟨g9,1,true,false,some (iV i (.iface 4 (.bool v0)) (.nili) (.nili))⟩)]⟩)
   (fun (i,g9)=>i≤1) (fun (i,g9)=>1 - i) (0,g) (by(refine⟨?_,?_⟩ <;>repeat' (first| exact True.intro| refine ai ?_| refine And.intro ?_ ?_))) (by simp) ?_
 rintro⟨i,g9⟩ hi
 try dsimp only at hi
 have gv:i=0∨i=1:=by omega
 rcases gv with rfl| rfl
 · simp only[iV]
   (conv=>whnf);repeat' ((first| intro g| refine aq (by assumption) (by first| assumption| rfl| (simp only[V.ae,V.aj,Bool.and_self,Bool.true_and,Bool.and_true, *])) (h0) rfl ?_| refine st ?_| (first| refine b1 ?_ ?_| refine b2 ?_ ?_| refine Br.mk ?_ ?_) <;>intro hc| exact rfl) <;>conv=>whnf)
   exact bk.mk (1,g) (by first| omega| (dsimp only;omega)) (by omega) (by(refine⟨?_,?_⟩ <;>repeat' (first| exact True.intro| refine ai ?_| refine And.intro ?_ ?_)))
 · simp only[iV]
   (conv=>whnf);repeat' ((first| intro g| refine st ?_| (first| refine b1 ?_ ?_| refine b2 ?_ ?_| refine Br.mk ?_ ?_) <;>intro hc| exact rfl) <;>conv=>whnf)
end Go.AM
namespace Go.AM
theorem Qz {x0 x1:Ex} {ev:b5} {v0:Bool} {v1:Bool} (h0:Ev E 392 [x0.v,ev.v] ⟨.iface 4 (.bool v0),[]⟩) (h1:Ev E 392 [x1.v,ev.v] ⟨.iface 4 (.bool v1),[]⟩) (nl:Bool):Ev E 392 [(Ex.mk 4 0 aM nl [x0,x1]).v,ev.v] ⟨.iface 4 (.bool (v0 &&v1)),[]⟩:=by
 have cm:aD E 392=[]:=rfl
 have ei:ev.v= .agg [vi ev.kind,.str ev.cls,.str ev.name,vi ev.weight,vi ev.level,.bool ev.cg,vi ev.scale,vi ev.hour,vi ev.reader]:=rfl
 obtain⟨A0,B0,C0,D0,E0,F0,L0,fB,Ix,fY⟩:=x0.db
 rw[fB,ei] at h0
 obtain⟨A1,B1,C1,D1,E1,F1,L1,fX,Kc,mR⟩:=x1.db
 rw[fX,ei] at h1
 rw[ei,Ex.bN]
 simp only[List.map_cons,List.map_nil,cP,aM,fB,fX]
 refine Ev.aG ju (jv _) rfl ?_
 (conv=>whnf);repeat' ((first| intro g| refine st ?_| (first| refine b1 ?_ ?_| refine b2 ?_ ?_| refine Br.mk ?_ ?_) <;>intro hc| exact rfl) <;>conv=>whnf)
 rename_i ed fh
 refine bj.by (fun ((i,g9):Nat×Nat)=> ⟨[(2,.ptr 48 ed 0 0),(3,.ptr 64 fh 0 0),(5,.sl 97 g9 0 i),(12,.lit 7 [.agg [vi A0,vi B0,vi C0,vi D0,.bool E0,.str F0,L0],.agg [vi A1,vi B1,vi C1,vi D1,.bool E1,.str F1,L1]]),(13,aO 2),(14,aO i)],[(48,⟨ed,7,false,false,some [.agg [vi 4,vi 0,vi 0,vi 0,.bool false,.str [],.lit 7 [.agg [vi A0,vi B0,vi C0,vi D0,.bool E0,.str F0,L0],.agg [vi A1,vi B1,vi C1,vi D1,.bool E1,.str F1,L1]]]]⟩),(64,⟨fh,9,false,false,some [.agg [vi ev.kind,.str ev.cls,.str ev.name,vi ev.weight,vi ev.level,.bool ev.cg,vi ev.scale,vi ev.hour,vi ev.reader]]⟩),(97,⟨g9,1,true,false,some (iV i (.iface 4 (.bool v0)) (.iface 4 (.bool v1)) (.nili))⟩)]⟩)
   (fun (i,g9)=>i≤2) (fun (i,g9)=>2 - i) (0,g) (by(refine⟨?_,?_⟩ <;>repeat' (first| exact True.intro| refine ai ?_| refine And.intro ?_ ?_))) (by simp) ?_
 rintro⟨i,g9⟩ hi
 try dsimp only at hi
 have gv:i=0∨i=1∨i=2:=by omega
 rcases gv with rfl| rfl| rfl
 · simp only[iV]
   (conv=>whnf);repeat' ((first| intro g| refine aq (by assumption) (by first| assumption| rfl| (simp only[V.ae,V.aj,Bool.and_self,Bool.true_and,Bool.and_true, *])) (h0) rfl ?_| refine st ?_| (first| refine b1 ?_ ?_| refine b2 ?_ ?_| refine Br.mk ?_ ?_) <;>intro hc| exact rfl) <;>conv=>whnf)
   exact bk.mk (1,g) (by first| omega| (dsimp only;omega)) (by omega) (by(refine⟨?_,?_⟩ <;>repeat' (first| exact True.intro| refine ai ?_| refine And.intro ?_ ?_)))
 · simp only[iV]
   (conv=>whnf);repeat' ((first| intro g| refine aq (by assumption) (by first| assumption| rfl| (simp only[V.ae,V.aj,Bool.and_self,Bool.true_and,Bool.and_true, *])) (h1) rfl ?_| refine st ?_| (first| refine b1 ?_ ?_| refine b2 ?_ ?_| refine Br.mk ?_ ?_) <;>intro hc| exact rfl) <;>conv=>whnf)
   exact bk.mk (2,g) (by first| omega| (dsimp only;omega)) (by omega) (by(refine⟨?_,?_⟩ <;>repeat' (first| exact True.intro| refine ai ?_| refine And.intro ?_ ?_)))
 · simp only[iV]
   cases v0
   all_goals (conv=>whnf);repeat' ((first| intro g| refine st ?_| (first| refine b1 ?_ ?_| refine b2 ?_ ?_| refine Br.mk ?_ ?_) <;>intro hc| exact rfl) <;>conv=>whnf)
end Go.AM
namespace Go.AM
theorem QA {x0 x1:Ex} {ev:b5} {v0:Bool} {v1:Bool} (h0:Ev E 392 [x0.v,ev.v] ⟨.iface 4 (.bool v0),[]⟩) (h1:Ev E 392 [x1.v,ev.v] ⟨.iface 4 (.bool v1),[]⟩) (nl:Bool):Ev E 392 [(Ex.mk 5 0 aM nl [x0,x1]).v,ev.v] ⟨.iface 4 (.bool (v0 || v1)),[]⟩:=by
 have cm:aD E 392=[]:=rfl
 have ei:ev.v= .agg [vi ev.kind,.str ev.cls,.str ev.name,vi ev.weight,vi ev.level,.bool ev.cg,vi ev.scale,vi ev.hour,vi ev.reader]:=rfl
 obtain⟨A0,B0,C0,D0,E0,F0,L0,fB,Ix,fY⟩:=x0.db
 rw[fB,ei] at h0
 obtain⟨A1,B1,C1,D1,E1,F1,L1,fX,Kc,mR⟩:=x1.db
 rw[fX,ei] at h1
 rw[ei,Ex.bN]
 simp only[List.map_cons,List.map_nil,cP,aM,fB,fX]
 refine Ev.aG ju (jv _) rfl ?_
 (conv=>whnf);repeat' ((first| intro g| refine st ?_| (first| refine b1 ?_ ?_| refine b2 ?_ ?_| refine Br.mk ?_ ?_) <;>intro hc| exact rfl) <;>conv=>whnf)
 rename_i ed fh
 refine bj.by (fun ((i,g9):Nat×Nat)=> ⟨[(2,.ptr 48 ed 0 0),(3,.ptr 64 fh 0 0),(5,.sl 97 g9 0 i),(12,.lit 7 [.agg [vi A0,vi B0,vi C0,vi D0,.bool E0,.str F0,L0],.agg [vi A1,vi B1,vi C1,vi D1,.bool E1,.str F1,L1]]),(13,aO 2),(14,aO i)],[(48,⟨ed,7,false,false,some [.agg [vi 5,vi 0,vi 0,vi 0,.bool false,.str [],.lit 7 [.agg [vi A0,vi B0,vi C0,vi D0,.bool E0,.str F0,L0],.agg [vi A1,vi B1,vi C1,vi D1,.bool E1,.str F1,L1]]]]⟩),(64,⟨fh,9,false,false,some [.agg [vi ev.kind,.str ev.cls,.str ev.name,vi ev.weight,vi ev.level,.bool ev.cg,vi ev.scale,vi ev.hour,vi ev.reader]]⟩),(97,⟨g9,1,true,false,some (iV i (.iface 4 (.bool v0)) (.iface 4 (.bool v1)) (.nili))⟩)]⟩)
   (fun (i,g9)=>i≤2) (fun (i,g9)=>2 - i) (0,g) (by(refine⟨?_,?_⟩ <;>repeat' (first| exact True.intro| refine ai ?_| refine And.intro ?_ ?_))) (by simp) ?_
 rintro⟨i,g9⟩ hi
 try dsimp only at hi
 have gv:i=0∨i=1∨i=2:=by omega
 rcases gv with rfl| rfl| rfl
 · simp only[iV]
   (conv=>whnf);repeat' ((first| intro g| refine aq (by assumption) (by first| assumption| rfl| (simp only[V.ae,V.aj,Bool.and_self,Bool.true_and,Bool.and_true, *])) (h0) rfl ?_| refine st ?_| (first| refine b1 ?_ ?_| refine b2 ?_ ?_| refine Br.mk ?_ ?_) <;>intro hc| exact rfl) <;>conv=>whnf)
   exact bk.mk (1,g) (by first| omega| (dsimp only;omega)) (by omega) (by(refine⟨?_,?_⟩ <;>repeat' (first| exact True.intro| refine ai ?_| refine And.intro ?_ ?_)))
 · simp only[iV]
   (conv=>whnf);repeat' ((first| intro g| refine aq (by assumption) (by first| assumption| rfl| (simp only[V.ae,V.aj,Bool.and_self,Bool.true_and,Bool.and_true, *])) (h1) rfl ?_| refine st ?_| (first| refine b1 ?_ ?_| refine b2 ?_ ?_| refine Br.mk ?_ ?_) <;>intro hc| exact rfl) <;>conv=>whnf)
   exact bk.mk (2,g) (by first| omega| (dsimp only;omega)) (by omega) (by(refine⟨?_,?_⟩ <;>repeat' (first| exact True.intro| refine ai ?_| refine And.intro ?_ ?_)))
 · simp only[iV]
   cases v0
   all_goals (conv=>whnf);repeat' ((first| intro g| refine st ?_| (first| refine b1 ?_ ?_| refine b2 ?_ ?_| refine Br.mk ?_ ?_) <;>intro hc| exact rfl) <;>conv=>whnf)
end Go.AM
namespace Go.AM
theorem QB {x0 x1:Ex} {ev:b5} {v0:Int} {v1:Int} (h0:Ev E 392 [x0.v,ev.v] ⟨.iface 3 (vi v0),[]⟩) (h1:Ev E 392 [x1.v,ev.v] ⟨.iface 3 (vi v1),[]⟩) (nl:Bool):Ev E 392 [(Ex.mk 6 0 aM nl [x0,x1]).v,ev.v] ⟨.iface 4 (.bool (v0==v1)),[]⟩:=by
 have cm:aD E 392=[]:=rfl
 have ei:ev.v= .agg [vi ev.kind,.str ev.cls,.str ev.name,vi ev.weight,vi ev.level,.bool ev.cg,vi ev.scale,vi ev.hour,vi ev.reader]:=rfl
 obtain⟨A0,B0,C0,D0,E0,F0,L0,fB,Ix,fY⟩:=x0.db
 rw[fB,ei] at h0
 obtain⟨A1,B1,C1,D1,E1,F1,L1,fX,Kc,mR⟩:=x1.db
 rw[fX,ei] at h1
 rw[ei,Ex.bN]
 simp only[List.map_cons,List.map_nil,cP,aM,fB,fX]
 refine Ev.aG ju (jv _) rfl ?_
 (conv=>whnf);repeat' ((first| intro g| refine st ?_| (first| refine b1 ?_ ?_| refine b2 ?_ ?_| refine Br.mk ?_ ?_) <;>intro hc| exact rfl) <;>conv=>whnf)
 rename_i ed fh
 refine bj.by (fun ((i,g9):Nat×Nat)=> ⟨[(2,.ptr 48 ed 0 0),(3,.ptr 64 fh 0 0),(5,.sl 97 g9 0 i),(12,.lit 7 [.agg [vi A0,vi B0,vi C0,vi D0,.bool E0,.str F0,L0],.agg [vi A1,vi B1,vi C1,vi D1,.bool E1,.str F1,L1]]),(13,aO 2),(14,aO i)],[(48,⟨ed,7,false,false,some [.agg [vi 6,vi 0,vi 0,vi 0,.bool false,.str [],.lit 7 [.agg [vi A0,vi B0,vi C0,vi D0,.bool E0,.str F0,L0],.agg [vi A1,vi B1,vi C1,vi D1,.bool E1,.str F1,L1]]]]⟩),(64,⟨fh,9,false,false,some [.agg [vi ev.kind,.str ev.cls,.str ev.name,vi ev.weight,vi ev.level,.bool ev.cg,vi ev.scale,vi ev.hour,vi ev.reader]]⟩),(97,⟨g9,1,true,false,some (iV i (.iface 3 (vi v0)) (.iface 3 (vi v1)) (.nili))⟩)]⟩)
   (fun (i,g9)=>i≤2) (fun (i,g9)=>2 - i) (0,g) (by(refine⟨?_,?_⟩ <;>repeat' (first| exact True.intro| refine ai ?_| refine And.intro ?_ ?_))) (by simp) ?_
 rintro⟨i,g9⟩ hi
 try dsimp only at hi
 have gv:i=0∨i=1∨i=2:=by omega
 rcases gv with rfl| rfl| rfl
 · simp only[iV]
   (conv=>whnf);repeat' ((first| intro g| refine aq (by assumption) (by first| assumption| rfl| (simp only[V.ae,V.aj,Bool.and_self,Bool.true_and,Bool.and_true, *])) (h0) rfl ?_| refine st ?_| (first| refine b1 ?_ ?_| refine b2 ?_ ?_| refine Br.mk ?_ ?_) <;>intro hc| exact rfl) <;>conv=>whnf)
   exact bk.mk (1,g) (by first| omega| (dsimp only;omega)) (by omega) (by(refine⟨?_,?_⟩ <;>repeat' (first| exact True.intro| refine ai ?_| refine And.intro ?_ ?_)))
 · simp only[iV]
   (conv=>whnf);repeat' ((first| intro g| refine aq (by assumption) (by first| assumption| rfl| (simp only[V.ae,V.aj,Bool.and_self,Bool.true_and,Bool.and_true, *])) (h1) rfl ?_| refine st ?_| (first| refine b1 ?_ ?_| refine b2 ?_ ?_| refine Br.mk ?_ ?_) <;>intro hc| exact rfl) <;>conv=>whnf)
   exact bk.mk (2,g) (by first| omega| (dsimp only;omega)) (by omega) (by(refine⟨?_,?_⟩ <;>repeat' (first| exact True.intro| refine ai ?_| refine And.intro ?_ ?_)))
 · simp only[iV]
   (conv=>whnf);repeat' ((first| intro g| refine st ?_| (first| refine b1 ?_ ?_| refine b2 ?_ ?_| refine Br.mk ?_ ?_) <;>intro hc| exact rfl) <;>conv=>whnf)
   all_goals simp
end Go.AM
namespace Go.AM
theorem QC {x0 x1:Ex} {ev:b5} {v0:Bool} {v1:Bool} (h0:Ev E 392 [x0.v,ev.v] ⟨.iface 4 (.bool v0),[]⟩) (h1:Ev E 392 [x1.v,ev.v] ⟨.iface 4 (.bool v1),[]⟩) (nl:Bool):Ev E 392 [(Ex.mk 6 0 aM nl [x0,x1]).v,ev.v] ⟨.iface 4 (.bool (v0==v1)),[]⟩:=by
 have cm:aD E 392=[]:=rfl
 have ei:ev.v= .agg [vi ev.kind,.str ev.cls,.str ev.name,vi ev.weight,vi ev.level,.bool ev.cg,vi ev.scale,vi ev.hour,vi ev.reader]:=rfl
 obtain⟨A0,B0,C0,D0,E0,F0,L0,fB,Ix,fY⟩:=x0.db
 rw[fB,ei] at h0
 obtain⟨A1,B1,C1,D1,E1,F1,L1,fX,Kc,mR⟩:=x1.db
 rw[fX,ei] at h1
 rw[ei,Ex.bN]
 simp only[List.map_cons,List.map_nil,cP,aM,fB,fX]
 refine Ev.aG ju (jv _) rfl ?_
 (conv=>whnf);repeat' ((first| intro g| refine st ?_| (first| refine b1 ?_ ?_| refine b2 ?_ ?_| refine Br.mk ?_ ?_) <;>intro hc| exact rfl) <;>conv=>whnf)
 rename_i ed fh
 refine bj.by (fun ((i,g9):Nat×Nat)=> ⟨[(2,.ptr 48 ed 0 0),(3,.ptr 64 fh 0 0),(5,.sl 97 g9 0 i),(12,.lit 7 [.agg [vi A0,vi B0,vi C0,vi D0,.bool E0,.str F0,L0],.agg [vi A1,vi B1,vi C1,vi D1,.bool E1,.str F1,L1]]),(13,aO 2),(14,aO i)],[(48,⟨ed,7,false,false,some [.agg [vi 6,vi 0,vi 0,vi 0,.bool false,.str [],.lit 7 [.agg [vi A0,vi B0,vi C0,vi D0,.bool E0,.str F0,L0],.agg [vi A1,vi B1,vi C1,vi D1,.bool E1,.str F1,L1]]]]⟩),(64,⟨fh,9,false,false,some [.agg [vi ev.kind,.str ev.cls,.str ev.name,vi ev.weight,vi ev.level,.bool ev.cg,vi ev.scale,vi ev.hour,vi ev.reader]]⟩),(97,⟨g9,1,true,false,some (iV i (.iface 4 (.bool v0)) (.iface 4 (.bool v1)) (.nili))⟩)]⟩)
   (fun (i,g9)=>i≤2) (fun (i,g9)=>2 - i) (0,g) (by(refine⟨?_,?_⟩ <;>repeat' (first| exact True.intro| refine ai ?_| refine And.intro ?_ ?_))) (by simp) ?_
 rintro⟨i,g9⟩ hi
 try dsimp only at hi
 have gv:i=0∨i=1∨i=2:=by omega
 rcases gv with rfl| rfl| rfl
 · simp only[iV]
   (conv=>whnf);repeat' ((first| intro g| refine aq (by assumption) (by first| assumption| rfl| (simp only[V.ae,V.aj,Bool.and_self,Bool.true_and,Bool.and_true, *])) (h0) rfl ?_| refine st ?_| (first| refine b1 ?_ ?_| refine b2 ?_ ?_| refine Br.mk ?_ ?_) <;>intro hc| exact rfl) <;>conv=>whnf)
   exact bk.mk (1,g) (by first| omega| (dsimp only;omega)) (by omega) (by(refine⟨?_,?_⟩ <;>repeat' (first| exact True.intro| refine ai ?_| refine And.intro ?_ ?_)))
 · simp only[iV]
   (conv=>whnf);repeat' ((first| intro g| refine aq (by assumption) (by first| assumption| rfl| (simp only[V.ae,V.aj,Bool.and_self,Bool.true_and,Bool.and_true, *])) (h1) rfl ?_| refine st ?_| (first| refine b1 ?_ ?_| refine b2 ?_ ?_| refine Br.mk ?_ ?_) <;>intro hc| exact rfl) <;>conv=>whnf)
   exact bk.mk (2,g) (by first| omega| (dsimp only;omega)) (by omega) (by(refine⟨?_,?_⟩ <;>repeat' (first| exact True.intro| refine ai ?_| refine And.intro ?_ ?_)))
 · simp only[iV]
   (conv=>whnf);repeat' ((first| intro g| refine st ?_| (first| refine b1 ?_ ?_| refine b2 ?_ ?_| refine Br.mk ?_ ?_) <;>intro hc| exact rfl) <;>conv=>whnf)
   all_goals simp
end Go.AM
namespace Go.AM
theorem QD {x0 x1:Ex} {ev:b5} {v0:dE} {v1:dE} (h0:Ev E 392 [x0.v,ev.v] ⟨.iface 9 (.str v0),[]⟩) (h1:Ev E 392 [x1.v,ev.v] ⟨.iface 9 (.str v1),[]⟩) (nl:Bool):Ev E 392 [(Ex.mk 6 0 aM nl [x0,x1]).v,ev.v] ⟨.iface 4 (.bool (decide (v0=v1))),[]⟩:=by
 have cm:aD E 392=[]:=rfl
 have ei:ev.v= .agg [vi ev.kind,.str ev.cls,.str ev.name,vi ev.weight,vi ev.level,.bool ev.cg,vi ev.scale,vi ev.hour,vi ev.reader]:=rfl
 obtain⟨A0,B0,C0,D0,E0,F0,L0,fB,Ix,fY⟩:=x0.db
 rw[fB,ei] at h0
 obtain⟨A1,B1,C1,D1,E1,F1,L1,fX,Kc,mR⟩:=x1.db
 rw[fX,ei] at h1
 rw[ei,Ex.bN]
 simp only[List.map_cons,List.map_nil,cP,aM,fB,fX]
 refine Ev.aG ju (jv _) rfl ?_
 (conv=>whnf);repeat' ((first| intro g| refine st ?_| (first| refine b1 ?_ ?_| refine b2 ?_ ?_| refine Br.mk ?_ ?_) <;>intro hc| exact rfl) <;>conv=>whnf)
 rename_i ed fh
 refine bj.by (fun ((i,g9):Nat×Nat)=> ⟨[(2,.ptr 48 ed 0 0),(3,.ptr 64 fh 0 0),(5,.sl 97 g9 0 i),(12,.lit 7 [.agg [vi A0,vi B0,vi C0,vi D0,.bool E0,.str F0,L0],.agg [vi A1,vi B1,vi C1,vi D1,.bool E1,.str F1,L1]]),(13,aO 2),(14,aO i)],[(48,⟨ed,7,false,false,some [.agg [vi 6,vi 0,vi 0,vi 0,.bool false,.str [],.lit 7 [.agg [vi A0,vi B0,vi C0,vi D0,.bool E0,.str F0,L0],.agg [vi A1,vi B1,vi C1,vi D1,.bool E1,.str F1,L1]]]]⟩),(64,⟨fh,9,false,false,some [.agg [vi ev.kind,.str ev.cls,.str ev.name,vi ev.weight,vi ev.level,.bool ev.cg,vi ev.scale,vi ev.hour,vi ev.reader]]⟩),(97,⟨g9,1,true,false,some (iV i (.iface 9 (.str v0)) (.iface 9 (.str v1)) (.nili))⟩)]⟩)
   (fun (i,g9)=>i≤2) (fun (i,g9)=>2 - i) (0,g) (by(refine⟨?_,?_⟩ <;>repeat' (first| exact True.intro| refine ai ?_| refine And.intro ?_ ?_))) (by simp) ?_
 rintro⟨i,g9⟩ hi
 try dsimp only at hi
 have gv:i=0∨i=1∨i=2:=by omega
 rcases gv with rfl| rfl| rfl
 · simp only[iV]
   (conv=>whnf);repeat' ((first| intro g| refine aq (by assumption) (by first| assumption| rfl| (simp only[V.ae,V.aj,Bool.and_self,Bool.true_and,Bool.and_true, *])) (h0) rfl ?_| refine st ?_| (first| refine b1 ?_ ?_| refine b2 ?_ ?_| refine Br.mk ?_ ?_) <;>intro hc| exact rfl) <;>conv=>whnf)
   exact bk.mk (1,g) (by first| omega| (dsimp only;omega)) (by omega) (by(refine⟨?_,?_⟩ <;>repeat' (first| exact True.intro| refine ai ?_| refine And.intro ?_ ?_)))
 · simp only[iV]
   (conv=>whnf);repeat' ((first| intro g| refine aq (by assumption) (by first| assumption| rfl| (simp only[V.ae,V.aj,Bool.and_self,Bool.true_and,Bool.and_true, *])) (h1) rfl ?_| refine st ?_| (first| refine b1 ?_ ?_| refine b2 ?_ ?_| refine Br.mk ?_ ?_) <;>intro hc| exact rfl) <;>conv=>whnf)
   exact bk.mk (2,g) (by first| omega| (dsimp only;omega)) (by omega) (by(refine⟨?_,?_⟩ <;>repeat' (first| exact True.intro| refine ai ?_| refine And.intro ?_ ?_)))
 · simp only[iV]
   (conv=>whnf);repeat' ((first| intro g| refine st ?_| (first| refine b1 ?_ ?_| refine b2 ?_ ?_| refine Br.mk ?_ ?_) <;>intro hc| exact rfl) <;>conv=>whnf)
   all_goals simp
end Go.AM
namespace Go.AM
theorem QE {x0 x1:Ex} {ev:b5} {v0:Int} {v1:Int} (h0:Ev E 392 [x0.v,ev.v] ⟨.iface 3 (vi v0),[]⟩) (h1:Ev E 392 [x1.v,ev.v] ⟨.iface 3 (vi v1),[]⟩) (nl:Bool):Ev E 392 [(Ex.mk 7 0 aM nl [x0,x1]).v,ev.v] ⟨.iface 4 (.bool (decide (v0<v1))),[]⟩:=by
 have cm:aD E 392=[]:=rfl
 have ei:ev.v= .agg [vi ev.kind,.str ev.cls,.str ev.name,vi ev.weight,vi ev.level,.bool ev.cg,vi ev.scale,vi ev.hour,vi ev.reader]:=rfl
 obtain⟨A0,B0,C0,D0,E0,F0,L0,fB,Ix,fY⟩:=x0.db
 rw[fB,ei] at h0
 obtain⟨A1,B1,C1,D1,E1,F1,L1,fX,Kc,mR⟩:=x1.db
 rw[fX,ei] at h1
 rw[ei,Ex.bN]
 simp only[List.map_cons,List.map_nil,cP,aM,fB,fX]
 refine Ev.aG ju (jv _) rfl ?_
 (conv=>whnf);repeat' ((first| intro g| refine st ?_| (first| refine b1 ?_ ?_| refine b2 ?_ ?_| refine Br.mk ?_ ?_) <;>intro hc| exact rfl) <;>conv=>whnf)
 rename_i ed fh
 refine bj.by (fun ((i,g9):Nat×Nat)=> ⟨[(2,.ptr 48 ed 0 0),(3,.ptr 64 fh 0 0),(5,.sl 97 g9 0 i),(12,.lit 7 [.agg [vi A0,vi B0,vi C0,vi D0,.bool E0,.str F0,L0],.agg [vi A1,vi B1,vi C1,vi D1,.bool E1,.str F1,L1]]),(13,aO 2),(14,aO i)],[(48,⟨ed,7,false,false,some [.agg [vi 7,vi 0,vi 0,vi 0,.bool false,.str [],.lit 7 [.agg [vi A0,vi B0,vi C0,vi D0,.bool E0,.str F0,L0],.agg [vi A1,vi B1,vi C1,vi D1,.bool E1,.str F1,L1]]]]⟩),(64,⟨fh,9,false,false,some [.agg [vi ev.kind,.str ev.cls,.str ev.name,vi ev.weight,vi ev.level,.bool ev.cg,vi ev.scale,vi ev.hour,vi ev.reader]]⟩),(97,⟨g9,1,true,false,some (iV i (.iface 3 (vi v0)) (.iface 3 (vi v1)) (.nili))⟩)]⟩)
   (fun (i,g9)=>i≤2) (fun (i,g9)=>2 - i) (0,g) (by(refine⟨?_,?_⟩ <;>repeat' (first| exact True.intro| refine ai ?_| refine And.intro ?_ ?_))) (by simp) ?_
 rintro⟨i,g9⟩ hi
 try dsimp only at hi
 have gv:i=0∨i=1∨i=2:=by omega
 rcases gv with rfl| rfl| rfl
 · simp only[iV]
   (conv=>whnf);repeat' ((first| intro g| refine aq (by assumption) (by first| assumption| rfl| (simp only[V.ae,V.aj,Bool.and_self,Bool.true_and,Bool.and_true, *])) (h0) rfl ?_| refine st ?_| (first| refine b1 ?_ ?_| refine b2 ?_ ?_| refine Br.mk ?_ ?_) <;>intro hc| exact rfl) <;>conv=>whnf)
   exact bk.mk (1,g) (by first| omega| (dsimp only;omega)) (by omega) (by(refine⟨?_,?_⟩ <;>repeat' (first| exact True.intro| refine ai ?_| refine And.intro ?_ ?_)))
 · simp only[iV]
   (conv=>whnf);repeat' ((first| intro g| refine aq (by assumption) (by first| assumption| rfl| (simp only[V.ae,V.aj,Bool.and_self,Bool.true_and,Bool.and_true, *])) (h1) rfl ?_| refine st ?_| (first| refine b1 ?_ ?_| refine b2 ?_ ?_| refine Br.mk ?_ ?_) <;>intro hc| exact rfl) <;>conv=>whnf)
   exact bk.mk (2,g) (by first| omega| (dsimp only;omega)) (by omega) (by(refine⟨?_,?_⟩ <;>repeat' (first| exact True.intro| refine ai ?_| refine And.intro ?_ ?_)))
 · simp only[iV]
   (conv=>whnf);repeat' ((first| intro g| refine st ?_| (first| refine b1 ?_ ?_| refine b2 ?_ ?_| refine Br.mk ?_ ?_) <;>intro hc| exact rfl) <;>conv=>whnf)
end Go.AM
