/-
  Texts of the proof, joined by program: SOddEonA, SOddEonB, SOddEonC, SOddEonD. Own work.
-/
import Derived.Test.YtkdfnbahehdhmaaGreatOc
import Derived.KernelRfl
set_option linter.unusedSimpArgs false
set_option linter.unusedVariables false
set_option maxRecDepth 20000
namespace Go.AM
set_option maxHeartbeats 8000000 in
theorem Eb {es:List Edge} {fs:List aI} {ps:List Place} (h:aQ.Small ⟨es,fs,[],ps⟩) (q0 q1 q2:Int) (aK:Ev E 92 [aQ.v ⟨es,fs,[],ps⟩] ⟨.agg [.own 4 (es.map Edge.v),.own 5 (fs.map aI.v),.nils,.own 7 (ps.map Place.v)],[]⟩)
   (cc:Nat) (ec:Ev E 93 [vi q0,vi ((17:Nat):Int)] ⟨aD cc,[]⟩) (db:cc=0∨cc=1∨cc=2∨cc=3∨cc=4):
   ∃res,Ev E 79 [aQ.v ⟨es,fs,[],ps⟩,kW q0 q1 q2] res∧ ∃ (m':aQ) (a b:Bool),kc ⟨es,fs,[],ps⟩ m'∧res=⟨m'.vw a b,[]⟩:=by
 obtain⟨nn,uI,en⟩:=bp q1 60 (by decide) (by decide)
 obtain⟨kk,uJ,ek⟩:=bp q2 64 (by decide) (by decide)
 have hF:=h.bn;have hP:=h.aZ;have hE:=h.aH;have hW:=h.ways
 dsimp only at hF hP hE hW
 refine Ev.cO oE (oF _) rfl ?_
 rcases db with rfl| rfl| rfl| rfl| rfl
 · (conv=>whnf);repeat' ((first| intro g| refine ag.mk _ (aK) ?_| refine ag.mk _ (en) ?_| refine ag.mk _ (ek) ?_| refine ag.mk _ (ec) ?_| refine st ?_| (first| refine b1 ?_ ?_| refine b2 ?_ ?_| refine Br.mk ?_ ?_) <;>intro hc| exact rfl) <;>conv=>whnf)
   refine ag.ex (wM (L:=es) (F:=fs) (by omega) (by omega) h.el _ _ _) ?_
   rintro _ ⟨L',F',h1,h2,h3,rfl⟩
   (conv=>whnf);repeat' ((first| intro g| refine ag.mk _ (aK) ?_| refine ag.mk _ (en) ?_| refine ag.mk _ (ek) ?_| refine ag.mk _ (ec) ?_| refine st ?_| (first| refine b1 ?_ ?_| refine b2 ?_ ?_| refine Br.mk ?_ ?_) <;>intro hc| exact rfl) <;>conv=>whnf)
   refine⟨⟨L',F',[],ps⟩,false,true,?_,rfl⟩
   exact xW h h1 h2 h3
 · by_cases h0:fs.length=0
   · (conv=>whnf);repeat' ((first| ((refine aL.str (by simp) h5 ?_;intro s)) | intro g| refine ag.mk _ (aK) ?_| refine ag.mk _ (en) ?_| refine ag.mk _ (ek) ?_| refine ag.mk _ (ec) ?_| refine st ?_| (first| refine b1 ?_ ?_| refine b2 ?_ ?_| refine Br.mk ?_ ?_) <;>intro hc| exact rfl) <;>conv=>whnf)
     refine⟨⟨es,fs,[],ps⟩,false,true,?_,rfl⟩
     exact ba h (by omega)
   · obtain⟨jj,dy,bM⟩:=bN kk (fs.map aI.v).length (by simp;omega)
     have mO:=bM
     rw[List.length_map] at bM
     obtain⟨f,hx⟩: ∃f,fs[jj]? =some f:=⟨_,aE bM⟩
     have eR: (fs.map aI.v)[((kk:Int).tmod ((fs.map aI.v).length:Int)).toNat]? =some f.v:=aq hx dy
     obtain⟨k5,Gi,hl5⟩:=bN nn 5 (by decide)
     have Gi: (nn:Int).tmod 5=(k5:Int):=Gi
     have h5: ((nn:Int).tmod 5).toNat< 5:=by omega
     (conv=>whnf);repeat' ((first| ((refine aL.str (by simp) h5 ?_;intro s)) | intro g| refine aL.mk _ (eR) ?_| refine aL.mk _ (bH (f:=aI.v) (⟨f.id,s,f.name,f.weight,f.eW⟩:aI) (by first| (simp;done) | fail)) ?_| refine ag.mk _ (aK) ?_| refine ag.mk _ (en) ?_| refine ag.mk _ (ek) ?_| refine ag.mk _ (ec) ?_| refine st ?_| (first| refine b1 ?_ ?_| refine b2 ?_ ?_| refine Br.mk ?_ ?_) <;>intro hc| exact rfl) <;>conv=>whnf)
     refine⟨⟨es,_,[],ps⟩,false,true,?_,rfl⟩
     exact ba h (by simp)
 · by_cases h0:fs.length=0
   · (conv=>whnf);repeat' ((first| intro g| refine ag.mk _ (aK) ?_| refine ag.mk _ (en) ?_| refine ag.mk _ (ek) ?_| refine ag.mk _ (ec) ?_| refine st ?_| (first| refine b1 ?_ ?_| refine b2 ?_ ?_| refine Br.mk ?_ ?_) <;>intro hc| exact rfl) <;>conv=>whnf)
     refine⟨⟨es,fs,[],ps⟩,false,true,?_,rfl⟩
     exact ba h (by omega)
   · obtain⟨jj,dy,bM⟩:=bN kk (fs.map aI.v).length (by simp;omega)
     have mO:=bM
     rw[List.length_map] at bM
     obtain⟨f,hx⟩: ∃f,fs[jj]? =some f:=⟨_,aE bM⟩
     have eR: (fs.map aI.v)[((kk:Int).tmod ((fs.map aI.v).length:Int)).toNat]? =some f.v:=aq hx dy
     obtain⟨s,hs⟩:=dq nn
     (conv=>whnf);repeat' ((first| intro g| refine aL.mk _ (eR) ?_| refine aL.mk _ (bH (f:=aI.v) (⟨f.id,f.cls,s,f.weight,f.eW⟩:aI) (by first| (simp;done) | fail)) ?_| refine ag.mk _ (aK) ?_| refine ag.mk _ (en) ?_| refine ag.mk _ (ek) ?_| refine ag.mk _ (ec) ?_| refine ag.mk _ (hs) ?_| refine st ?_| (first| refine b1 ?_ ?_| refine b2 ?_ ?_| refine Br.mk ?_ ?_) <;>intro hc| exact rfl) <;>conv=>whnf)
     refine⟨⟨es,_,[],ps⟩,false,true,?_,rfl⟩
     exact ba h (by simp)
 · by_cases h0:fs.length=0
   · (conv=>whnf);repeat' ((first| intro g| refine ag.mk _ (aK) ?_| refine ag.mk _ (en) ?_| refine ag.mk _ (ek) ?_| refine ag.mk _ (ec) ?_| refine st ?_| (first| refine b1 ?_ ?_| refine b2 ?_ ?_| refine Br.mk ?_ ?_) <;>intro hc| exact rfl) <;>conv=>whnf)
     refine⟨⟨es,fs,[],ps⟩,false,true,?_,rfl⟩
     exact ba h (by omega)
   · obtain⟨jj,dy,bM⟩:=bN kk (fs.map aI.v).length (by simp;omega)
     have mO:=bM
     rw[List.length_map] at bM
     obtain⟨f,hx⟩: ∃f,fs[jj]? =some f:=⟨_,aE bM⟩
     have eR: (fs.map aI.v)[((kk:Int).tmod ((fs.map aI.v).length:Int)).toNat]? =some f.v:=aq hx dy
     (conv=>whnf);repeat' ((first| intro g| refine aL.mk _ (eR) ?_| refine aL.mk _ (bH (f:=aI.v) (⟨f.id,f.cls,f.name,IntKind.i64.wrap ((nn:Int)*6),f.eW⟩:aI) (by first| (simp;done) | fail)) ?_| refine ag.mk _ (aK) ?_| refine ag.mk _ (en) ?_| refine ag.mk _ (ek) ?_| refine ag.mk _ (ec) ?_| refine st ?_| (first| refine b1 ?_ ?_| refine b2 ?_ ?_| refine Br.mk ?_ ?_) <;>intro hc| exact rfl) <;>conv=>whnf)
     refine⟨⟨es,_,[],ps⟩,false,true,?_,rfl⟩
     exact ba h (by simp)
 · by_cases h0:fs.length=0
   · (conv=>whnf);repeat' ((first| intro g| refine ag.mk _ (aK) ?_| refine ag.mk _ (en) ?_| refine ag.mk _ (ek) ?_| refine ag.mk _ (ec) ?_| refine st ?_| (first| refine b1 ?_ ?_| refine b2 ?_ ?_| refine Br.mk ?_ ?_) <;>intro hc| exact rfl) <;>conv=>whnf)
     refine⟨⟨es,fs,[],ps⟩,false,true,?_,rfl⟩
     exact ba h (by omega)
   · obtain⟨jj,dy,bM⟩:=bN kk (fs.map aI.v).length (by simp;omega)
     have mO:=bM
     rw[List.length_map] at bM
     obtain⟨f,hx⟩: ∃f,fs[jj]? =some f:=⟨_,aE bM⟩
     have eR: (fs.map aI.v)[((kk:Int).tmod ((fs.map aI.v).length:Int)).toNat]? =some f.v:=aq hx dy
     (conv=>whnf);repeat' ((first| intro g| refine aL.mk _ (eR) ?_| refine aL.mk _ (bH (f:=aI.v) (⟨f.id,f.cls,f.name,f.weight,(nn:Int).tmod 18⟩:aI) (by first| (simp;done) | fail)) ?_| refine ag.mk _ (aK) ?_| refine ag.mk _ (en) ?_| refine ag.mk _ (ek) ?_| refine ag.mk _ (ec) ?_| refine st ?_| (first| refine b1 ?_ ?_| refine b2 ?_ ?_| refine Br.mk ?_ ?_) <;>intro hc| exact rfl) <;>conv=>whnf)
     refine⟨⟨es,_,[],ps⟩,false,true,?_,rfl⟩
     exact ba h (by simp)
end Go.AM
set_option maxRecDepth 20000
namespace Go.AM
set_option maxHeartbeats 8000000 in
theorem Ec {es:List Edge} {fs:List aI} {ps:List Place} (h:aQ.Small ⟨es,fs,[],ps⟩) (q0 q1 q2:Int) (aK:Ev E 92 [aQ.v ⟨es,fs,[],ps⟩] ⟨.agg [.own 4 (es.map Edge.v),.own 5 (fs.map aI.v),.nils,.own 7 (ps.map Place.v)],[]⟩)
   (cc:Nat) (ec:Ev E 93 [vi q0,vi ((17:Nat):Int)] ⟨aD cc,[]⟩) (db:cc=5∨cc=6∨cc=7∨cc=8∨cc=9):
   ∃res,Ev E 79 [aQ.v ⟨es,fs,[],ps⟩,kW q0 q1 q2] res∧ ∃ (m':aQ) (a b:Bool),kc ⟨es,fs,[],ps⟩ m'∧res=⟨m'.vw a b,[]⟩:=by
 obtain⟨nn,uI,en⟩:=bp q1 60 (by decide) (by decide)
 obtain⟨kk,uJ,ek⟩:=bp q2 64 (by decide) (by decide)
 have hF:=h.bn;have hP:=h.aZ;have hE:=h.aH;have hW:=h.ways
 dsimp only at hF hP hE hW
 refine Ev.cO oE (oF _) rfl ?_
 rcases db with rfl| rfl| rfl| rfl| rfl
 · (conv=>whnf);repeat' ((first| intro g| refine ag.mk _ (aK) ?_| refine ag.mk _ (en) ?_| refine ag.mk _ (ek) ?_| refine ag.mk _ (ec) ?_| refine st ?_| (first| refine b1 ?_ ?_| refine b2 ?_ ?_| refine Br.mk ?_ ?_) <;>intro hc| exact rfl) <;>conv=>whnf)
   refine⟨⟨es,fs,[],ps⟩,false,true,?_,rfl⟩
   exact ba h (by omega)
 · (conv=>whnf);repeat' ((first| intro g| refine ag.mk _ (aK) ?_| refine ag.mk _ (en) ?_| refine ag.mk _ (ek) ?_| refine ag.mk _ (ec) ?_| refine st ?_| (first| refine b1 ?_ ?_| refine b2 ?_ ?_| refine Br.mk ?_ ?_) <;>intro hc| exact rfl) <;>conv=>whnf)
   refine⟨⟨es,fs,[],ps⟩,false,true,?_,rfl⟩
   exact ba h (by omega)
 · (conv=>whnf);repeat' ((first| intro g| refine ag.mk _ (aK) ?_| refine ag.mk _ (en) ?_| refine ag.mk _ (ek) ?_| refine ag.mk _ (ec) ?_| refine st ?_| (first| refine b1 ?_ ?_| refine b2 ?_ ?_| refine Br.mk ?_ ?_) <;>intro hc| exact rfl) <;>conv=>whnf)
   refine⟨⟨es,fs,[],ps⟩,false,true,?_,rfl⟩
   exact ba h (by omega)
 · (conv=>whnf);repeat' ((first| intro g| refine ag.mk _ (aK) ?_| refine ag.mk _ (en) ?_| refine ag.mk _ (ek) ?_| refine ag.mk _ (ec) ?_| refine st ?_| (first| refine b1 ?_ ?_| refine b2 ?_ ?_| refine Br.mk ?_ ?_) <;>intro hc| exact rfl) <;>conv=>whnf)
   refine⟨⟨es,fs,[],ps⟩,false,true,?_,rfl⟩
   exact ba h (by omega)
 · obtain⟨s,hs⟩:=dq kk
   (conv=>whnf);repeat' ((first| intro g| refine ag.mk _ (aK) ?_| refine ag.mk _ (en) ?_| refine ag.mk _ (ek) ?_| refine ag.mk _ (ec) ?_| refine ag.mk _ (hs) ?_| refine st ?_| (first| refine b1 ?_ ?_| refine b2 ?_ ?_| refine Br.mk ?_ ?_) <;>intro hc| exact rfl) <;>conv=>whnf)
   refine⟨⟨es,fs,[(⟨IntKind.i64.wrap (30+(nn:Int)),[⟨IntKind.i64.wrap (10*(nn:Int)),20⟩,⟨55,65⟩],(kk:Int).tmod 2,[112,97,116,104],s,false,IntKind.i64.wrap (1+(nn:Int)),IntKind.i64.wrap (1+(kk:Int).tmod 3)⟩:Way)],ps⟩,false,false,?_,rfl⟩
   exact ja h (by simp) (by simp)
end Go.AM
set_option maxRecDepth 20000
namespace Go.AM
set_option maxHeartbeats 8000000 in
theorem Ed {es:List Edge} {fs:List aI} {ps:List Place} (h:aQ.Small ⟨es,fs,[],ps⟩) (q0 q1 q2:Int) (aK:Ev E 92 [aQ.v ⟨es,fs,[],ps⟩] ⟨.agg [.own 4 (es.map Edge.v),.own 5 (fs.map aI.v),.nils,.own 7 (ps.map Place.v)],[]⟩)
   (cc:Nat) (ec:Ev E 93 [vi q0,vi ((17:Nat):Int)] ⟨aD cc,[]⟩) (db:cc=10∨cc=11∨cc=12∨cc=13):
   ∃res,Ev E 79 [aQ.v ⟨es,fs,[],ps⟩,kW q0 q1 q2] res∧ ∃ (m':aQ) (a b:Bool),kc ⟨es,fs,[],ps⟩ m'∧res=⟨m'.vw a b,[]⟩:=by
 obtain⟨nn,uI,en⟩:=bp q1 60 (by decide) (by decide)
 obtain⟨kk,uJ,ek⟩:=bp q2 64 (by decide) (by decide)
 have hF:=h.bn;have hP:=h.aZ;have hE:=h.aH;have hW:=h.ways
 dsimp only at hF hP hE hW
 refine Ev.cO oE (oF _) rfl ?_
 rcases db with rfl| rfl| rfl| rfl
 · by_cases h0:ps.length=0
   · (conv=>whnf);repeat' ((first| intro g| refine ag.mk _ (aK) ?_| refine ag.mk _ (en) ?_| refine ag.mk _ (ek) ?_| refine ag.mk _ (ec) ?_| refine st ?_| (first| refine b1 ?_ ?_| refine b2 ?_ ?_| refine Br.mk ?_ ?_) <;>intro hc| exact rfl) <;>conv=>whnf)
     refine⟨⟨es,fs,[],ps⟩,false,true,?_,rfl⟩
     exact ba h (by omega)
   · obtain⟨jj,dy,bM⟩:=bN kk (ps.map Place.v).length (by simp;omega)
     have mO:=bM
     rw[List.length_map] at bM
     obtain⟨f,hx⟩: ∃f,ps[jj]? =some f:=⟨_,aE bM⟩
     have eR: (ps.map Place.v)[((kk:Int).tmod ((ps.map Place.v).length:Int)).toNat]? =some f.v:=aq hx dy
     (conv=>whnf);repeat' ((first| intro g| refine aL.mk _ (eR) ?_| refine aL.mk _ (bH (f:=Place.v) (⟨f.id,IntKind.i64.wrap (IntKind.i64.wrap (f.x+(nn:Int)) - 30),IntKind.i64.wrap (IntKind.i64.wrap (f.y+(kk:Int)) - 30),f.cls,f.name,f.weight,f.eW⟩:Place) (by first| (simp;done) | fail)) ?_| refine ag.mk _ (aK) ?_| refine ag.mk _ (en) ?_| refine ag.mk _ (ek) ?_| refine ag.mk _ (ec) ?_| refine st ?_| (first| refine b1 ?_ ?_| refine b2 ?_ ?_| refine Br.mk ?_ ?_) <;>intro hc| exact rfl) <;>conv=>whnf)
     refine⟨⟨es,fs,[],_⟩,false,true,?_,rfl⟩
     exact cZ h (.inl (by simp))
 · by_cases h0:ps.length=0
   · (conv=>whnf);repeat' ((first| intro g| refine ag.mk _ (aK) ?_| refine ag.mk _ (en) ?_| refine ag.mk _ (ek) ?_| refine ag.mk _ (ec) ?_| refine st ?_| (first| refine b1 ?_ ?_| refine b2 ?_ ?_| refine Br.mk ?_ ?_) <;>intro hc| exact rfl) <;>conv=>whnf)
     refine⟨⟨es,fs,[],ps⟩,false,true,?_,rfl⟩
     exact ba h (by omega)
   · obtain⟨jj,dy,bM⟩:=bN kk (ps.map Place.v).length (by simp;omega)
     have mO:=bM
     rw[List.length_map] at bM
     obtain⟨f,hx⟩: ∃f,ps[jj]? =some f:=⟨_,aE bM⟩
     have eR: (ps.map Place.v)[((kk:Int).tmod ((ps.map Place.v).length:Int)).toNat]? =some f.v:=aq hx dy
     (conv=>whnf);repeat' ((first| intro g| refine aL.mk _ (eR) ?_| refine aL.mk _ (bH (f:=Place.v) (⟨f.id,f.x,f.y,f.cls,f.name,f.weight,(nn:Int).tmod 18⟩:Place) (by first| (simp;done) | fail)) ?_| refine ag.mk _ (aK) ?_| refine ag.mk _ (en) ?_| refine ag.mk _ (ek) ?_| refine ag.mk _ (ec) ?_| refine st ?_| (first| refine b1 ?_ ?_| refine b2 ?_ ?_| refine Br.mk ?_ ?_) <;>intro hc| exact rfl) <;>conv=>whnf)
     refine⟨⟨es,fs,[],_⟩,false,true,?_,rfl⟩
     exact cZ h (.inl (by simp))
 · by_cases h0:ps.length=0
   · (conv=>whnf);repeat' ((first| intro g| refine ag.mk _ (aK) ?_| refine ag.mk _ (en) ?_| refine ag.mk _ (ek) ?_| refine ag.mk _ (ec) ?_| refine st ?_| (first| refine b1 ?_ ?_| refine b2 ?_ ?_| refine Br.mk ?_ ?_) <;>intro hc| exact rfl) <;>conv=>whnf)
     refine⟨⟨es,fs,[],ps⟩,false,true,?_,rfl⟩
     exact ba h (by omega)
   · obtain⟨jj,dy,bM⟩:=bN kk (ps.map Place.v).length (by simp;omega)
     have mO:=bM
     rw[List.length_map] at bM
     obtain⟨f,hx⟩: ∃f,ps[jj]? =some f:=⟨_,aE bM⟩
     have eR: (ps.map Place.v)[((kk:Int).tmod ((ps.map Place.v).length:Int)).toNat]? =some f.v:=aq hx dy
     obtain⟨s,hs⟩:=dq nn
     (conv=>whnf);repeat' ((first| intro g| refine aL.mk _ (eR) ?_| refine aL.mk _ (bH (f:=Place.v) (⟨f.id,f.x,f.y,f.cls,s,f.weight,f.eW⟩:Place) (by first| (simp;done) | fail)) ?_| refine ag.mk _ (aK) ?_| refine ag.mk _ (en) ?_| refine ag.mk _ (ek) ?_| refine ag.mk _ (ec) ?_| refine ag.mk _ (hs) ?_| refine st ?_| (first| refine b1 ?_ ?_| refine b2 ?_ ?_| refine Br.mk ?_ ?_) <;>intro hc| exact rfl) <;>conv=>whnf)
     refine⟨⟨es,fs,[],_⟩,false,true,?_,rfl⟩
     exact cZ h (.inl (by simp))
 · by_cases h0:ps.length=0
   · (conv=>whnf);repeat' ((first| intro g| refine ag.mk _ (aK) ?_| refine ag.mk _ (en) ?_| refine ag.mk _ (ek) ?_| refine ag.mk _ (ec) ?_| refine st ?_| (first| refine b1 ?_ ?_| refine b2 ?_ ?_| refine Br.mk ?_ ?_) <;>intro hc| exact rfl) <;>conv=>whnf)
     refine⟨⟨es,fs,[],ps⟩,false,true,?_,rfl⟩
     exact ba h (by omega)
   · obtain⟨jj,dy,bM⟩:=bN kk (ps.map Place.v).length (by simp;omega)
     have Ja: ((kk:Int).tmod ((ps.map Place.v).length:Int)).toNat=jj:=by rw[dy];rfl
     have hw:IntKind.i64.wrap ((kk:Int).tmod ((ps.map Place.v).length:Int)+1)=((jj+1:Nat):Int):=by rw[dy];exact(wrap64 (by rw[List.length_map] at bM;omega) (by rw[List.length_map] at bM;omega)).trans (by omega)
     have Jb: (IntKind.i64.wrap ((kk:Int).tmod ((ps.map Place.v).length:Int)+1)).toNat=jj+1:=by rw[hw];rfl
     have Tw: (ps.map Place.v).length=ps.length:=List.length_map ..
     have Tx: ((ps.drop (jj+1)).map Place.v).length=ps.length - (jj+1):=by simp
     (conv=>whnf);repeat' ((first| intro g| refine dI.mk (⟨n0 (by first| omega| fail) (by first| omega| fail),AM.bZ (fun _=>rfl) _⟩) ?_| refine aL.mk _ (kX (f:=Place.v) (j:=jj) (by first| omega| fail) (by first| omega| fail)) ?_| refine aL.mk _ (n9 (f:=Place.v) (j:=jj) (by first| omega| fail) (by first| omega| fail) (by first| omega| fail)) ?_| refine ag.mk _ (aK) ?_| refine ag.mk _ (en) ?_| refine ag.mk _ (ek) ?_| refine ag.mk _ (ec) ?_| refine st ?_| (first| refine b1 ?_ ?_| refine b2 ?_ ?_| refine Br.mk ?_ ?_) <;>intro hc| exact rfl) <;>conv=>whnf)
     refine⟨⟨es,fs,[],_⟩,false,true,?_,rfl⟩
     exact cZ h (.inl (by simp;omega))
end Go.AM
set_option maxRecDepth 20000
namespace Go.AM
set_option maxHeartbeats 8000000 in
theorem Ee {es:List Edge} {fs:List aI} {ps:List Place} (h:aQ.Small ⟨es,fs,[],ps⟩) (q0 q1 q2:Int) (aK:Ev E 92 [aQ.v ⟨es,fs,[],ps⟩] ⟨.agg [.own 4 (es.map Edge.v),.own 5 (fs.map aI.v),.nils,.own 7 (ps.map Place.v)],[]⟩)
   (cc:Nat) (ec:Ev E 93 [vi q0,vi ((17:Nat):Int)] ⟨aD cc,[]⟩) (db:cc=14∨cc=15∨cc=16):
   ∃res,Ev E 79 [aQ.v ⟨es,fs,[],ps⟩,kW q0 q1 q2] res∧ ∃ (m':aQ) (a b:Bool),kc ⟨es,fs,[],ps⟩ m'∧res=⟨m'.vw a b,[]⟩:=by
 obtain⟨nn,uI,en⟩:=bp q1 60 (by decide) (by decide)
 obtain⟨kk,uJ,ek⟩:=bp q2 64 (by decide) (by decide)
 have hF:=h.bn;have hP:=h.aZ;have hE:=h.aH;have hW:=h.ways
 dsimp only at hF hP hE hW
 refine Ev.cO oE (oF _) rfl ?_
 rcases db with rfl| rfl| rfl
 · obtain⟨s,hs⟩:=dq kk
   obtain⟨k4,lY,Jc⟩:=bN nn 4 (by decide)
   have lY: (nn:Int).tmod 4=k4:=lY
   obtain⟨y,hy⟩: ∃y:Int,[V.int .i64 0,V.int .i64 1073741824,V.int .i64 1073741825,V.int .i64 70][((nn:Int).tmod 4).toNat]? =some (vi y):=by
     rw[lY]
     rcases(by omega:k4=0∨k4=1∨k4=2∨k4=3) with rfl| rfl| rfl| rfl<;>exact⟨_,rfl⟩
   have uK:aN (ps.map Place.v++[Place.v (⟨IntKind.i64.wrap (y+IntKind.i64.wrap ((nn:Int).tdiv 4)),IntKind.i64.wrap (50+IntKind.i64.wrap (5*(nn:Int))),IntKind.i64.wrap (50+IntKind.i64.wrap (2*(kk:Int))),[115,104,111,112],s,5,IntKind.i64.wrap (1+(nn:Int).tmod 2)⟩:Place)]) 0 ((ps.map Place.v).length+1)=(ps++[(⟨IntKind.i64.wrap (y+IntKind.i64.wrap ((nn:Int).tdiv 4)),IntKind.i64.wrap (50+IntKind.i64.wrap (5*(nn:Int))),IntKind.i64.wrap (50+IntKind.i64.wrap (2*(kk:Int))),[115,104,111,112],s,5,IntKind.i64.wrap (1+(nn:Int).tmod 2)⟩:Place)]).map Place.v:=by
     rw[show ps.map Place.v++[Place.v (⟨IntKind.i64.wrap (y+IntKind.i64.wrap ((nn:Int).tdiv 4)),IntKind.i64.wrap (50+IntKind.i64.wrap (5*(nn:Int))),IntKind.i64.wrap (50+IntKind.i64.wrap (2*(kk:Int))),[115,104,111,112],s,5,IntKind.i64.wrap (1+(nn:Int).tmod 2)⟩:Place)]=(ps++[(⟨IntKind.i64.wrap (y+IntKind.i64.wrap ((nn:Int).tdiv 4)),IntKind.i64.wrap (50+IntKind.i64.wrap (5*(nn:Int))),IntKind.i64.wrap (50+IntKind.i64.wrap (2*(kk:Int))),[115,104,111,112],s,5,IntKind.i64.wrap (1+(nn:Int).tmod 2)⟩:Place)]).map Place.v from by simp]
     exact bC (by simp)
   (conv=>whnf);repeat' ((first| intro g| refine aL.mk _ (hy) ?_| refine aL.mk _ (uK) ?_| refine ag.mk _ (aK) ?_| refine ag.mk _ (en) ?_| refine ag.mk _ (ek) ?_| refine ag.mk _ (ec) ?_| refine ag.mk _ (hs) ?_| refine st ?_| (first| refine b1 ?_ ?_| refine b2 ?_ ?_| refine Br.mk ?_ ?_) <;>intro hc| exact rfl) <;>conv=>whnf)
   refine⟨⟨es,fs,[],_⟩,false,true,?_,rfl⟩
   exact cZ h (.inl (by simp))
 · by_cases h0:ps.length=0
   · (conv=>whnf);repeat' ((first| intro g| refine ag.mk _ (aK) ?_| refine ag.mk _ (en) ?_| refine ag.mk _ (ek) ?_| refine ag.mk _ (ec) ?_| refine st ?_| (first| refine b1 ?_ ?_| refine b2 ?_ ?_| refine Br.mk ?_ ?_) <;>intro hc| exact rfl) <;>conv=>whnf)
     refine⟨⟨es,fs,[],ps⟩,false,true,?_,rfl⟩
     exact ba h (by omega)
   · obtain⟨jj,dy,bM⟩:=bN kk (ps.map Place.v).length (by simp;omega)
     have mO:=bM
     rw[List.length_map] at bM
     obtain⟨f,hx⟩: ∃f,ps[jj]? =some f:=⟨_,aE bM⟩
     have eR: (ps.map Place.v)[((kk:Int).tmod ((ps.map Place.v).length:Int)).toNat]? =some f.v:=aq hx dy
     (conv=>whnf);repeat' ((first| intro g| refine aL.mk _ (eR) ?_| refine aL.mk _ (bH (f:=Place.v) (⟨f.id,f.x,f.y,f.cls,f.name,IntKind.i64.wrap ((nn:Int)*5),f.eW⟩:Place) (by first| (simp;done) | fail)) ?_| refine ag.mk _ (aK) ?_| refine ag.mk _ (en) ?_| refine ag.mk _ (ek) ?_| refine ag.mk _ (ec) ?_| refine st ?_| (first| refine b1 ?_ ?_| refine b2 ?_ ?_| refine Br.mk ?_ ?_) <;>intro hc| exact rfl) <;>conv=>whnf)
     refine⟨⟨es,fs,[],_⟩,false,true,?_,rfl⟩
     exact cZ h (.inl (by simp))
 · obtain⟨k4,lY,Jc⟩:=bN nn 4 (by decide)
   have lY: (nn:Int).tmod 4=k4:=lY
   have hw4:IntKind.i64.wrap (79+(nn:Int).tmod 4)=((79+k4:Nat):Int):=by rw[lY];exact(wrap64 (by omega) (by omega)).trans (by omega)
   (conv=>whnf);repeat' ((first| intro g| refine ag.mk _ (aK) ?_| refine ag.mk _ (en) ?_| refine ag.mk _ (ek) ?_| refine ag.mk _ (ec) ?_| refine st ?_| (first| refine b1 ?_ ?_| refine b2 ?_ ?_| refine Br.mk ?_ ?_) <;>intro hc| exact rfl) <;>conv=>whnf)
   rename_i D6 gE gF gP
   obtain⟨ig,uL⟩: ∃x,x=g:=⟨_,rfl⟩
   rw[←uL];clear uL
   refine aV.by (fun ((i,gp):Nat×Nat)=> ⟨[(4,.ptr 80 D6 0 0),(5,.ptr 96 ig 0 0),(6,aD nn),(9,aD i)],[(80,⟨D6,4,false,false,some [.agg [.lit 4 [],.lit 5 [],.lit 8 [],.lit 7 []]]⟩),(96,⟨ig,4,false,false,some [.agg [.sl 192 gE 0 (es.map Edge.v).length,.sl 193 gF 0 (fs.map aI.v).length,.nils,.sl 195 gp 0 (ps.length+i)]]⟩),(192,⟨gE,4,true,false,some (es.map Edge.v)⟩),(193,⟨gF,5,true,false,some (fs.map aI.v)⟩),(195,⟨gp,7,true,false,some ((ps++(List.range i).map jO).map Place.v)⟩)]⟩)
     (fun (i,_)=>i≤79+k4) (fun (i,_)=>79+k4 - i) (0,gP) (by(refine⟨?_,?_⟩ <;>repeat' (first| exact True.intro| refine ai ?_| refine And.intro ?_ ?_))) (by simp) ?_
   rintro⟨i,gp⟩ hi
   try dsimp only at hi
   have hlen: ((ps++(List.range i).map jO).map Place.v).length=ps.length+i:=by simp
   by_cases bl:i< 79+k4
   · (conv=>whnf);repeat' ((first| (refine Or.inl (dI.mk ⟨rfl,hlen,by simp;omega⟩ ?_)) | intro g| refine st ?_| (first| refine b1 ?_ ?_| refine b2 ?_ ?_| refine Br.mk ?_ ?_) <;>intro hc| exact rfl) <;>conv=>whnf)
     exact a9.mk (i+1,g) (by first| omega| (dsimp only;omega)) (by first| omega| (dsimp only;omega)) (by(refine⟨?_,?_⟩ <;>repeat' (first| exact True.intro| refine And.intro (congrArg (fun L=> (⟨g,7,true,false,some L⟩:Obj)) (lZ ps i)) ?_| refine ai ?_| refine And.intro ?_ ?_)))
   · obtain rfl:i=79+k4:=by omega
     (conv=>whnf);repeat' ((first| intro g| refine aL.mk _ (bC (by first| (simp;done) | fail)) ?_| refine st ?_| (first| refine b1 ?_ ?_| refine b2 ?_ ?_| refine Br.mk ?_ ?_) <;>intro hc| exact rfl) <;>conv=>whnf)
     refine⟨⟨es,fs,[],_⟩,false,true,?_,rfl⟩
     exact cZ h (.inr ⟨79+k4,jO,by omega,fun i hi=> (wrap64 (by omega) (by omega)),rfl⟩)
end Go.AM
