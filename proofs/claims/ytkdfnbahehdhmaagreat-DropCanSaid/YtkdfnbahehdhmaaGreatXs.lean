/-
  Texts of the proof, joined by program: DcSame. Own work.
-/
import Derived.Test.YtkdfnbahehdhmaaGreatXg
set_option linter.unusedSimpArgs false
set_option linter.unusedVariables false
set_option maxRecDepth 20000
namespace Go.AM
theorem yW {l:List Pt} (h:l.length< 1000000):Ev E 165 [dJ l,dJ l] ⟨.bool true,[]⟩:=by
 refine Ev.aG Ud (Ue _) rfl ?_
 (conv=>whnf);repeat' ((first| intro g| refine st ?_| (first| refine b1 ?_ ?_| refine b2 ?_ ?_| refine Br.mk ?_ ?_) <;>intro hc| exact rfl) <;>conv=>whnf)
 refine aV.by (fun (i:Nat)=> ⟨[(0,dJ l),(1,dJ l),(5,aD i)],[]⟩) (fun i=>i≤l.length) (fun i=>l.length - i) 0 (by(refine⟨?_,?_⟩ <;>repeat' (first| exact True.intro| refine ai ?_| refine And.intro ?_ ?_))) (by simp) ?_
 intro i hi
 (conv=>whnf);repeat' ((first| intro g| refine st ?_| (first| refine b1 ?_ ?_| refine b2 ?_ ?_| refine Br.mk ?_ ?_) <;>intro hc| exact rfl) <;>conv=>whnf)
 all_goals first| exact a9.mk (i+1) (by first| omega| (dsimp only;omega)) (by omega) (by(refine⟨?_,?_⟩ <;>repeat' (first| exact True.intro| refine ai ?_| refine And.intro ?_ ?_))) | (simp at hc;done) | trace_state
theorem iM {l:List Pt} (h:l.length< 1000000):Ev E 125 [dJ l,dJ l] ⟨.bool true,[]⟩:=by
 refine Ev.aG Up (Uq _) rfl ?_
 (conv=>whnf);repeat' ((first| intro g| refine st ?_| (first| refine b1 ?_ ?_| refine b2 ?_ ?_| refine Br.mk ?_ ?_) <;>intro hc| exact rfl) <;>conv=>whnf)
 refine aV.by (fun (i:Nat)=> ⟨[(0,dJ l),(1,dJ l),(5,aD i)],[]⟩) (fun i=>i≤l.length) (fun i=>l.length - i) 0 (by(refine⟨?_,?_⟩ <;>repeat' (first| exact True.intro| refine ai ?_| refine And.intro ?_ ?_))) (by simp) ?_
 intro i hi
 (conv=>whnf);repeat' ((first| intro g| refine st ?_| (first| refine b1 ?_ ?_| refine b2 ?_ ?_| refine Br.mk ?_ ?_) <;>intro hc| exact rfl) <;>conv=>whnf)
 all_goals first| exact a9.mk (i+1) (by first| omega| (dsimp only;omega)) (by omega) (by(refine⟨?_,?_⟩ <;>repeat' (first| exact True.intro| refine ai ?_| refine And.intro ?_ ?_))) | (simp at hc;done) | trace_state
theorem vU (w:Way) (h:w.line.length< 1000000):Ev E 126 [w.v,w.v] ⟨.bool true,[]⟩:=by
 have hl:=yW h
 refine Ev.aG Ur (Us _) rfl ?_
 (conv=>whnf);repeat' ((first| intro g| refine ag.mk _ (hl) ?_| refine st ?_| (first| refine b1 ?_ ?_| refine b2 ?_ ?_| refine Br.mk ?_ ?_) <;>intro hc| exact rfl) <;>conv=>whnf)
 all_goals simp
def nlV (b:Bool) (sz:Nat) (l:List V):V:=cond b .nils (.lit sz l)
def aQ.nv (m:aQ) (a b:Bool):V:= .agg [.lit 4 (m.aH.map Edge.v),.lit 5 (m.bn.map aI.v),nlV a 8 (m.ways.map Way.v),nlV b 7 (m.aZ.map Place.v)]
set_option maxHeartbeats 2000000 in
theorem CE {es:List Edge} {fs:List aI} {ws:List Way} {ps:List Place} (h:aQ.Fit ⟨es,fs,ws,ps⟩):Ev E 89 [aQ.v ⟨es,fs,ws,ps⟩,aQ.nv ⟨es,fs,ws,ps⟩ false false] ⟨.bool true,[]⟩:=by
 have he:=h.e
 have hf:=h.f
 have hw:=h.w
 have hp:=h.p
 dsimp only at he hf hw hp
 refine Ev.aG Kb (Kc _) rfl ?_
 (conv=>whnf);repeat' ((first| intro g| refine st ?_| (first| refine b1 ?_ ?_| refine b2 ?_ ?_| refine Br.mk ?_ ?_) <;>intro hc| exact rfl) <;>conv=>whnf)
 rename_i g1
 refine aV.by (fun (i:Nat)=> ⟨[(2,.ptr 48 g1 0 0),(3,.ptr 64 g 0 0),(5,aD i)],[(48,⟨g1,4,false,false,some [aQ.v ⟨es,fs,ws,ps⟩]⟩),(64,⟨g,4,false,false,some [aQ.nv ⟨es,fs,ws,ps⟩ false false]⟩)]⟩) (fun i=>i≤es.length) (fun i=>es.length - i) 0 (by(refine⟨?_,?_⟩ <;>repeat' (first| exact True.intro| refine ai ?_| refine And.intro ?_ ?_))) (by simp) ?_
 intro i hi
 by_cases bl:i<es.length
 · obtain⟨e,hx⟩: ∃e,es[i]? =some e:=⟨_,aE bl⟩
   have hl:=iM (h.el e (List.mem_of_getElem? hx))
   (conv=>whnf);repeat' ((first| intro g| refine aL.mk _ (aq hx rfl) ?_| refine ag.mk _ (hl) ?_| refine st ?_| (first| refine b1 ?_ ?_| refine b2 ?_ ?_| refine Br.mk ?_ ?_) <;>intro hc| exact rfl) <;>conv=>whnf)
   all_goals first| exact a9.mk (i+1) (by first| omega| (dsimp only;omega)) (by omega) (by(refine⟨?_,?_⟩ <;>repeat' (first| exact True.intro| refine ai ?_| refine And.intro ?_ ?_))) | (simp at hc;done) | trace_state
 obtain rfl:i=es.length:=by omega
 (conv=>whnf);repeat' ((first| intro g| refine st ?_| (first| refine b1 ?_ ?_| refine b2 ?_ ?_| refine Br.mk ?_ ?_) <;>intro hc| exact rfl) <;>conv=>whnf)
 refine aV.by (fun (i:Nat)=> ⟨[(2,.ptr 48 g1 0 0),(3,.ptr 64 g 0 0),(7,aD i)],[(48,⟨g1,4,false,false,some [aQ.v ⟨es,fs,ws,ps⟩]⟩),(64,⟨g,4,false,false,some [aQ.nv ⟨es,fs,ws,ps⟩ false false]⟩)]⟩) (fun i=>i≤fs.length) (fun i=>fs.length - i) 0 (by(refine⟨?_,?_⟩ <;>repeat' (first| exact True.intro| refine ai ?_| refine And.intro ?_ ?_))) (by simp) ?_
 intro i hi
 by_cases bl:i<fs.length
 · obtain⟨e,hx⟩: ∃e,fs[i]? =some e:=⟨_,aE bl⟩
   (conv=>whnf);repeat' ((first| intro g| refine aL.mk _ (aq hx rfl) ?_| refine st ?_| (first| refine b1 ?_ ?_| refine b2 ?_ ?_| refine Br.mk ?_ ?_) <;>intro hc| exact rfl) <;>conv=>whnf)
   all_goals first| exact a9.mk (i+1) (by first| omega| (dsimp only;omega)) (by omega) (by(refine⟨?_,?_⟩ <;>repeat' (first| exact True.intro| refine ai ?_| refine And.intro ?_ ?_))) | (simp at hc;done) | trace_state
 obtain rfl:i=fs.length:=by omega
 (conv=>whnf);repeat' ((first| intro g| refine st ?_| (first| refine b1 ?_ ?_| refine b2 ?_ ?_| refine Br.mk ?_ ?_) <;>intro hc| exact rfl) <;>conv=>whnf)
 refine aV.by (fun (i:Nat)=> ⟨[(2,.ptr 48 g1 0 0),(3,.ptr 64 g 0 0),(8,aD i)],[(48,⟨g1,4,false,false,some [aQ.v ⟨es,fs,ws,ps⟩]⟩),(64,⟨g,4,false,false,some [aQ.nv ⟨es,fs,ws,ps⟩ false false]⟩)]⟩) (fun i=>i≤ws.length) (fun i=>ws.length - i) 0 (by(refine⟨?_,?_⟩ <;>repeat' (first| exact True.intro| refine ai ?_| refine And.intro ?_ ?_))) (by simp) ?_
 intro i hi
 by_cases bl:i<ws.length
 · obtain⟨e,hx⟩: ∃e,ws[i]? =some e:=⟨_,aE bl⟩
   have hl:=vU e (h.wl e (List.mem_of_getElem? hx))
   (conv=>whnf);repeat' ((first| intro g| refine aL.mk _ (aq hx rfl) ?_| refine ag.mk _ (hl) ?_| refine st ?_| (first| refine b1 ?_ ?_| refine b2 ?_ ?_| refine Br.mk ?_ ?_) <;>intro hc| exact rfl) <;>conv=>whnf)
   all_goals first| exact a9.mk (i+1) (by first| omega| (dsimp only;omega)) (by omega) (by(refine⟨?_,?_⟩ <;>repeat' (first| exact True.intro| refine ai ?_| refine And.intro ?_ ?_))) | (simp at hc;done) | trace_state
 obtain rfl:i=ws.length:=by omega
 (conv=>whnf);repeat' ((first| intro g| refine st ?_| (first| refine b1 ?_ ?_| refine b2 ?_ ?_| refine Br.mk ?_ ?_) <;>intro hc| exact rfl) <;>conv=>whnf)
 refine aV.by (fun (i:Nat)=> ⟨[(2,.ptr 48 g1 0 0),(3,.ptr 64 g 0 0),(10,aD i)],[(48,⟨g1,4,false,false,some [aQ.v ⟨es,fs,ws,ps⟩]⟩),(64,⟨g,4,false,false,some [aQ.nv ⟨es,fs,ws,ps⟩ false false]⟩)]⟩) (fun i=>i≤ps.length) (fun i=>ps.length - i) 0 (by(refine⟨?_,?_⟩ <;>repeat' (first| exact True.intro| refine ai ?_| refine And.intro ?_ ?_))) (by simp) ?_
 intro i hi
 by_cases bl:i<ps.length
 · obtain⟨e,hx⟩: ∃e,ps[i]? =some e:=⟨_,aE bl⟩
   (conv=>whnf);repeat' ((first| intro g| refine aL.mk _ (aq hx rfl) ?_| refine st ?_| (first| refine b1 ?_ ?_| refine b2 ?_ ?_| refine Br.mk ?_ ?_) <;>intro hc| exact rfl) <;>conv=>whnf)
   all_goals first| exact a9.mk (i+1) (by first| omega| (dsimp only;omega)) (by omega) (by(refine⟨?_,?_⟩ <;>repeat' (first| exact True.intro| refine ai ?_| refine And.intro ?_ ?_))) | (simp at hc;done) | trace_state
 obtain rfl:i=ps.length:=by omega
 (conv=>whnf);repeat' ((first| intro g| refine st ?_| (first| refine b1 ?_ ?_| refine b2 ?_ ?_| refine Br.mk ?_ ?_) <;>intro hc| exact rfl) <;>conv=>whnf)
set_option maxHeartbeats 2000000 in
theorem CF {es:List Edge} {fs:List aI} {ws:List Way} (h:aQ.Fit ⟨es,fs,ws,[]⟩):Ev E 89 [aQ.v ⟨es,fs,ws,[]⟩,aQ.nv ⟨es,fs,ws,[]⟩ false true] ⟨.bool true,[]⟩:=by
 have he:=h.e
 have hf:=h.f
 have hw:=h.w
 have hp:=h.p
 dsimp only at he hf hw hp
 refine Ev.aG Kb (Kc _) rfl ?_
 (conv=>whnf);repeat' ((first| intro g| refine st ?_| (first| refine b1 ?_ ?_| refine b2 ?_ ?_| refine Br.mk ?_ ?_) <;>intro hc| exact rfl) <;>conv=>whnf)
 rename_i g1
 refine aV.by (fun (i:Nat)=> ⟨[(2,.ptr 48 g1 0 0),(3,.ptr 64 g 0 0),(5,aD i)],[(48,⟨g1,4,false,false,some [aQ.v ⟨es,fs,ws,[]⟩]⟩),(64,⟨g,4,false,false,some [aQ.nv ⟨es,fs,ws,[]⟩ false true]⟩)]⟩) (fun i=>i≤es.length) (fun i=>es.length - i) 0 (by(refine⟨?_,?_⟩ <;>repeat' (first| exact True.intro| refine ai ?_| refine And.intro ?_ ?_))) (by simp) ?_
 intro i hi
 by_cases bl:i<es.length
 · obtain⟨e,hx⟩: ∃e,es[i]? =some e:=⟨_,aE bl⟩
   have hl:=iM (h.el e (List.mem_of_getElem? hx))
   (conv=>whnf);repeat' ((first| intro g| refine aL.mk _ (aq hx rfl) ?_| refine ag.mk _ (hl) ?_| refine st ?_| (first| refine b1 ?_ ?_| refine b2 ?_ ?_| refine Br.mk ?_ ?_) <;>intro hc| exact rfl) <;>conv=>whnf)
   all_goals first| exact a9.mk (i+1) (by first| omega| (dsimp only;omega)) (by omega) (by(refine⟨?_,?_⟩ <;>repeat' (first| exact True.intro| refine ai ?_| refine And.intro ?_ ?_))) | (simp at hc;done) | trace_state
 obtain rfl:i=es.length:=by omega
 (conv=>whnf);repeat' ((first| intro g| refine st ?_| (first| refine b1 ?_ ?_| refine b2 ?_ ?_| refine Br.mk ?_ ?_) <;>intro hc| exact rfl) <;>conv=>whnf)
 refine aV.by (fun (i:Nat)=> ⟨[(2,.ptr 48 g1 0 0),(3,.ptr 64 g 0 0),(7,aD i)],[(48,⟨g1,4,false,false,some [aQ.v ⟨es,fs,ws,[]⟩]⟩),(64,⟨g,4,false,false,some [aQ.nv ⟨es,fs,ws,[]⟩ false true]⟩)]⟩) (fun i=>i≤fs.length) (fun i=>fs.length - i) 0 (by(refine⟨?_,?_⟩ <;>repeat' (first| exact True.intro| refine ai ?_| refine And.intro ?_ ?_))) (by simp) ?_
 intro i hi
 by_cases bl:i<fs.length
 · obtain⟨e,hx⟩: ∃e,fs[i]? =some e:=⟨_,aE bl⟩
   (conv=>whnf);repeat' ((first| intro g| refine aL.mk _ (aq hx rfl) ?_| refine st ?_| (first| refine b1 ?_ ?_| refine b2 ?_ ?_| refine Br.mk ?_ ?_) <;>intro hc| exact rfl) <;>conv=>whnf)
   all_goals first| exact a9.mk (i+1) (by first| omega| (dsimp only;omega)) (by omega) (by(refine⟨?_,?_⟩ <;>repeat' (first| exact True.intro| refine ai ?_| refine And.intro ?_ ?_))) | (simp at hc;done) | trace_state
 obtain rfl:i=fs.length:=by omega
 (conv=>whnf);repeat' ((first| intro g| refine st ?_| (first| refine b1 ?_ ?_| refine b2 ?_ ?_| refine Br.mk ?_ ?_) <;>intro hc| exact rfl) <;>conv=>whnf)
 refine aV.by (fun (i:Nat)=> ⟨[(2,.ptr 48 g1 0 0),(3,.ptr 64 g 0 0),(8,aD i)],[(48,⟨g1,4,false,false,some [aQ.v ⟨es,fs,ws,[]⟩]⟩),(64,⟨g,4,false,false,some [aQ.nv ⟨es,fs,ws,[]⟩ false true]⟩)]⟩) (fun i=>i≤ws.length) (fun i=>ws.length - i) 0 (by(refine⟨?_,?_⟩ <;>repeat' (first| exact True.intro| refine ai ?_| refine And.intro ?_ ?_))) (by simp) ?_
 intro i hi
 by_cases bl:i<ws.length
 · obtain⟨e,hx⟩: ∃e,ws[i]? =some e:=⟨_,aE bl⟩
   have hl:=vU e (h.wl e (List.mem_of_getElem? hx))
   (conv=>whnf);repeat' ((first| intro g| refine aL.mk _ (aq hx rfl) ?_| refine ag.mk _ (hl) ?_| refine st ?_| (first| refine b1 ?_ ?_| refine b2 ?_ ?_| refine Br.mk ?_ ?_) <;>intro hc| exact rfl) <;>conv=>whnf)
   all_goals first| exact a9.mk (i+1) (by first| omega| (dsimp only;omega)) (by omega) (by(refine⟨?_,?_⟩ <;>repeat' (first| exact True.intro| refine ai ?_| refine And.intro ?_ ?_))) | (simp at hc;done) | trace_state
 obtain rfl:i=ws.length:=by omega
 (conv=>whnf);repeat' ((first| intro g| refine st ?_| (first| refine b1 ?_ ?_| refine b2 ?_ ?_| refine Br.mk ?_ ?_) <;>intro hc| exact rfl) <;>conv=>whnf)
 refine aV.by (fun (i:Nat)=> ⟨[(2,.ptr 48 g1 0 0),(3,.ptr 64 g 0 0),(10,aD i)],[(48,⟨g1,4,false,false,some [aQ.v ⟨es,fs,ws,[]⟩]⟩),(64,⟨g,4,false,false,some [aQ.nv ⟨es,fs,ws,[]⟩ false true]⟩)]⟩) (fun i=>i≤([]:List Place).length) (fun i=> ([]:List Place).length - i) 0 (by(refine⟨?_,?_⟩ <;>repeat' (first| exact True.intro| refine ai ?_| refine And.intro ?_ ?_))) (by simp) ?_
 intro i hi
 by_cases bl:i< ([]:List Place).length
 · simp at bl
 obtain rfl:i=([]:List Place).length:=by omega
 (conv=>whnf);repeat' ((first| intro g| refine st ?_| (first| refine b1 ?_ ?_| refine b2 ?_ ?_| refine Br.mk ?_ ?_) <;>intro hc| exact rfl) <;>conv=>whnf)
set_option maxHeartbeats 2000000 in
theorem CG {es:List Edge} {fs:List aI} {ps:List Place} (h:aQ.Fit ⟨es,fs,[],ps⟩):Ev E 89 [aQ.v ⟨es,fs,[],ps⟩,aQ.nv ⟨es,fs,[],ps⟩ true false] ⟨.bool true,[]⟩:=by
 have he:=h.e
 have hf:=h.f
 have hw:=h.w
 have hp:=h.p
 dsimp only at he hf hw hp
 refine Ev.aG Kb (Kc _) rfl ?_
 (conv=>whnf);repeat' ((first| intro g| refine st ?_| (first| refine b1 ?_ ?_| refine b2 ?_ ?_| refine Br.mk ?_ ?_) <;>intro hc| exact rfl) <;>conv=>whnf)
 rename_i g1
 refine aV.by (fun (i:Nat)=> ⟨[(2,.ptr 48 g1 0 0),(3,.ptr 64 g 0 0),(5,aD i)],[(48,⟨g1,4,false,false,some [aQ.v ⟨es,fs,[],ps⟩]⟩),(64,⟨g,4,false,false,some [aQ.nv ⟨es,fs,[],ps⟩ true false]⟩)]⟩) (fun i=>i≤es.length) (fun i=>es.length - i) 0 (by(refine⟨?_,?_⟩ <;>repeat' (first| exact True.intro| refine ai ?_| refine And.intro ?_ ?_))) (by simp) ?_
 intro i hi
 by_cases bl:i<es.length
 · obtain⟨e,hx⟩: ∃e,es[i]? =some e:=⟨_,aE bl⟩
   have hl:=iM (h.el e (List.mem_of_getElem? hx))
   (conv=>whnf);repeat' ((first| intro g| refine aL.mk _ (aq hx rfl) ?_| refine ag.mk _ (hl) ?_| refine st ?_| (first| refine b1 ?_ ?_| refine b2 ?_ ?_| refine Br.mk ?_ ?_) <;>intro hc| exact rfl) <;>conv=>whnf)
   all_goals first| exact a9.mk (i+1) (by first| omega| (dsimp only;omega)) (by omega) (by(refine⟨?_,?_⟩ <;>repeat' (first| exact True.intro| refine ai ?_| refine And.intro ?_ ?_))) | (simp at hc;done) | trace_state
 obtain rfl:i=es.length:=by omega
 (conv=>whnf);repeat' ((first| intro g| refine st ?_| (first| refine b1 ?_ ?_| refine b2 ?_ ?_| refine Br.mk ?_ ?_) <;>intro hc| exact rfl) <;>conv=>whnf)
 refine aV.by (fun (i:Nat)=> ⟨[(2,.ptr 48 g1 0 0),(3,.ptr 64 g 0 0),(7,aD i)],[(48,⟨g1,4,false,false,some [aQ.v ⟨es,fs,[],ps⟩]⟩),(64,⟨g,4,false,false,some [aQ.nv ⟨es,fs,[],ps⟩ true false]⟩)]⟩) (fun i=>i≤fs.length) (fun i=>fs.length - i) 0 (by(refine⟨?_,?_⟩ <;>repeat' (first| exact True.intro| refine ai ?_| refine And.intro ?_ ?_))) (by simp) ?_
 intro i hi
 by_cases bl:i<fs.length
 · obtain⟨e,hx⟩: ∃e,fs[i]? =some e:=⟨_,aE bl⟩
   (conv=>whnf);repeat' ((first| intro g| refine aL.mk _ (aq hx rfl) ?_| refine st ?_| (first| refine b1 ?_ ?_| refine b2 ?_ ?_| refine Br.mk ?_ ?_) <;>intro hc| exact rfl) <;>conv=>whnf)
   all_goals first| exact a9.mk (i+1) (by first| omega| (dsimp only;omega)) (by omega) (by(refine⟨?_,?_⟩ <;>repeat' (first| exact True.intro| refine ai ?_| refine And.intro ?_ ?_))) | (simp at hc;done) | trace_state
 obtain rfl:i=fs.length:=by omega
 (conv=>whnf);repeat' ((first| intro g| refine st ?_| (first| refine b1 ?_ ?_| refine b2 ?_ ?_| refine Br.mk ?_ ?_) <;>intro hc| exact rfl) <;>conv=>whnf)
 refine aV.by (fun (i:Nat)=> ⟨[(2,.ptr 48 g1 0 0),(3,.ptr 64 g 0 0),(8,aD i)],[(48,⟨g1,4,false,false,some [aQ.v ⟨es,fs,[],ps⟩]⟩),(64,⟨g,4,false,false,some [aQ.nv ⟨es,fs,[],ps⟩ true false]⟩)]⟩) (fun i=>i≤([]:List Way).length) (fun i=> ([]:List Way).length - i) 0 (by(refine⟨?_,?_⟩ <;>repeat' (first| exact True.intro| refine ai ?_| refine And.intro ?_ ?_))) (by simp) ?_
 intro i hi
 by_cases bl:i< ([]:List Way).length
 · simp at bl
 obtain rfl:i=([]:List Way).length:=by omega
 (conv=>whnf);repeat' ((first| intro g| refine st ?_| (first| refine b1 ?_ ?_| refine b2 ?_ ?_| refine Br.mk ?_ ?_) <;>intro hc| exact rfl) <;>conv=>whnf)
 refine aV.by (fun (i:Nat)=> ⟨[(2,.ptr 48 g1 0 0),(3,.ptr 64 g 0 0),(10,aD i)],[(48,⟨g1,4,false,false,some [aQ.v ⟨es,fs,[],ps⟩]⟩),(64,⟨g,4,false,false,some [aQ.nv ⟨es,fs,[],ps⟩ true false]⟩)]⟩) (fun i=>i≤ps.length) (fun i=>ps.length - i) 0 (by(refine⟨?_,?_⟩ <;>repeat' (first| exact True.intro| refine ai ?_| refine And.intro ?_ ?_))) (by simp) ?_
 intro i hi
 by_cases bl:i<ps.length
 · obtain⟨e,hx⟩: ∃e,ps[i]? =some e:=⟨_,aE bl⟩
   (conv=>whnf);repeat' ((first| intro g| refine aL.mk _ (aq hx rfl) ?_| refine st ?_| (first| refine b1 ?_ ?_| refine b2 ?_ ?_| refine Br.mk ?_ ?_) <;>intro hc| exact rfl) <;>conv=>whnf)
   all_goals first| exact a9.mk (i+1) (by first| omega| (dsimp only;omega)) (by omega) (by(refine⟨?_,?_⟩ <;>repeat' (first| exact True.intro| refine ai ?_| refine And.intro ?_ ?_))) | (simp at hc;done) | trace_state
 obtain rfl:i=ps.length:=by omega
 (conv=>whnf);repeat' ((first| intro g| refine st ?_| (first| refine b1 ?_ ?_| refine b2 ?_ ?_| refine Br.mk ?_ ?_) <;>intro hc| exact rfl) <;>conv=>whnf)
set_option maxHeartbeats 2000000 in
theorem CH {es:List Edge} {fs:List aI} (h:aQ.Fit ⟨es,fs,[],[]⟩):Ev E 89 [aQ.v ⟨es,fs,[],[]⟩,aQ.nv ⟨es,fs,[],[]⟩ true true] ⟨.bool true,[]⟩:=by
 have he:=h.e
 have hf:=h.f
 have hw:=h.w
 have hp:=h.p
 dsimp only at he hf hw hp
 refine Ev.aG Kb (Kc _) rfl ?_
 (conv=>whnf);repeat' ((first| intro g| refine st ?_| (first| refine b1 ?_ ?_| refine b2 ?_ ?_| refine Br.mk ?_ ?_) <;>intro hc| exact rfl) <;>conv=>whnf)
 rename_i g1
 refine aV.by (fun (i:Nat)=> ⟨[(2,.ptr 48 g1 0 0),(3,.ptr 64 g 0 0),(5,aD i)],[(48,⟨g1,4,false,false,some [aQ.v ⟨es,fs,[],[]⟩]⟩),(64,⟨g,4,false,false,some [aQ.nv ⟨es,fs,[],[]⟩ true true]⟩)]⟩) (fun i=>i≤es.length) (fun i=>es.length - i) 0 (by(refine⟨?_,?_⟩ <;>repeat' (first| exact True.intro| refine ai ?_| refine And.intro ?_ ?_))) (by simp) ?_
 intro i hi
 by_cases bl:i<es.length
 · obtain⟨e,hx⟩: ∃e,es[i]? =some e:=⟨_,aE bl⟩
   have hl:=iM (h.el e (List.mem_of_getElem? hx))
   (conv=>whnf);repeat' ((first| intro g| refine aL.mk _ (aq hx rfl) ?_| refine ag.mk _ (hl) ?_| refine st ?_| (first| refine b1 ?_ ?_| refine b2 ?_ ?_| refine Br.mk ?_ ?_) <;>intro hc| exact rfl) <;>conv=>whnf)
   all_goals first| exact a9.mk (i+1) (by first| omega| (dsimp only;omega)) (by omega) (by(refine⟨?_,?_⟩ <;>repeat' (first| exact True.intro| refine ai ?_| refine And.intro ?_ ?_))) | (simp at hc;done) | trace_state
 obtain rfl:i=es.length:=by omega
 (conv=>whnf);repeat' ((first| intro g| refine st ?_| (first| refine b1 ?_ ?_| refine b2 ?_ ?_| refine Br.mk ?_ ?_) <;>intro hc| exact rfl) <;>conv=>whnf)
 refine aV.by (fun (i:Nat)=> ⟨[(2,.ptr 48 g1 0 0),(3,.ptr 64 g 0 0),(7,aD i)],[(48,⟨g1,4,false,false,some [aQ.v ⟨es,fs,[],[]⟩]⟩),(64,⟨g,4,false,false,some [aQ.nv ⟨es,fs,[],[]⟩ true true]⟩)]⟩) (fun i=>i≤fs.length) (fun i=>fs.length - i) 0 (by(refine⟨?_,?_⟩ <;>repeat' (first| exact True.intro| refine ai ?_| refine And.intro ?_ ?_))) (by simp) ?_
 intro i hi
 by_cases bl:i<fs.length
 · obtain⟨e,hx⟩: ∃e,fs[i]? =some e:=⟨_,aE bl⟩
   (conv=>whnf);repeat' ((first| intro g| refine aL.mk _ (aq hx rfl) ?_| refine st ?_| (first| refine b1 ?_ ?_| refine b2 ?_ ?_| refine Br.mk ?_ ?_) <;>intro hc| exact rfl) <;>conv=>whnf)
   all_goals first| exact a9.mk (i+1) (by first| omega| (dsimp only;omega)) (by omega) (by(refine⟨?_,?_⟩ <;>repeat' (first| exact True.intro| refine ai ?_| refine And.intro ?_ ?_))) | (simp at hc;done) | trace_state
 obtain rfl:i=fs.length:=by omega
 (conv=>whnf);repeat' ((first| intro g| refine st ?_| (first| refine b1 ?_ ?_| refine b2 ?_ ?_| refine Br.mk ?_ ?_) <;>intro hc| exact rfl) <;>conv=>whnf)
 refine aV.by (fun (i:Nat)=> ⟨[(2,.ptr 48 g1 0 0),(3,.ptr 64 g 0 0),(8,aD i)],[(48,⟨g1,4,false,false,some [aQ.v ⟨es,fs,[],[]⟩]⟩),(64,⟨g,4,false,false,some [aQ.nv ⟨es,fs,[],[]⟩ true true]⟩)]⟩) (fun i=>i≤([]:List Way).length) (fun i=> ([]:List Way).length - i) 0 (by(refine⟨?_,?_⟩ <;>repeat' (first| exact True.intro| refine ai ?_| refine And.intro ?_ ?_))) (by simp) ?_
 intro i hi
 by_cases bl:i< ([]:List Way).length
 · simp at bl
 obtain rfl:i=([]:List Way).length:=by omega
 (conv=>whnf);repeat' ((first| intro g| refine st ?_| (first| refine b1 ?_ ?_| refine b2 ?_ ?_| refine Br.mk ?_ ?_) <;>intro hc| exact rfl) <;>conv=>whnf)
 refine aV.by (fun (i:Nat)=> ⟨[(2,.ptr 48 g1 0 0),(3,.ptr 64 g 0 0),(10,aD i)],[(48,⟨g1,4,false,false,some [aQ.v ⟨es,fs,[],[]⟩]⟩),(64,⟨g,4,false,false,some [aQ.nv ⟨es,fs,[],[]⟩ true true]⟩)]⟩) (fun i=>i≤([]:List Place).length) (fun i=> ([]:List Place).length - i) 0 (by(refine⟨?_,?_⟩ <;>repeat' (first| exact True.intro| refine ai ?_| refine And.intro ?_ ?_))) (by simp) ?_
 intro i hi
 by_cases bl:i< ([]:List Place).length
 · simp at bl
 obtain rfl:i=([]:List Place).length:=by omega
 (conv=>whnf);repeat' ((first| intro g| refine st ?_| (first| refine b1 ?_ ?_| refine b2 ?_ ?_| refine Br.mk ?_ ?_) <;>intro hc| exact rfl) <;>conv=>whnf)
theorem vT {m:aQ} (h:m.Fit) {a b:Bool} (ha:a=true→m.ways=[]) (hb:b=true→m.aZ=[]):Ev E 89 [m.v,m.nv a b] ⟨.bool true,[]⟩:=by
 obtain⟨es,fs,ws,ps⟩:=m
 cases a<;>cases b
 · exact CE h
 · obtain rfl:ps=[]:=hb rfl
   exact CF h
 · obtain rfl:ws=[]:=ha rfl
   exact CG h
 · obtain rfl:ws=[]:=ha rfl
   obtain rfl:ps=[]:=hb rfl
   exact CH h
end Go.AM
