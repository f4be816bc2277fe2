/-
  Texts of the proof, joined by program: SOddEonA, SOddEonB, SOddEonC, SOddEonD. Own work.
-/
import Derived.Test.YtinmckmdbepjcaaGreatOc
import Derived.KernelRfl
set_option linter.unusedSimpArgs false
set_option linter.unusedVariables false
set_option maxRecDepth 20000
namespace Go.AM
set_option maxHeartbeats 8000000 in
theorem CG {es:List Edge} {fs:List ar} {ps:List Place} (h:aG.Small ⟨es,fs,[],ps⟩) (q0 q1 q2:Int) (aI:Ev E 92 [aG.v ⟨es,fs,[],ps⟩] ⟨.agg [.own 4 (es.map Edge.v),.own 5 (fs.map ar.v),.nils,.own 7 (ps.map Place.v)],[]⟩)
   (cc:Nat) (ec:Ev E 93 [vi q0,vi ((17:Nat):Int)] ⟨aF cc,[]⟩) (dk:cc=0∨cc=1∨cc=2∨cc=3∨cc=4):
   ∃res,Ev E 79 [aG.v ⟨es,fs,[],ps⟩,ll q0 q1 q2] res∧ ∃ (m':aG) (a b:Bool),jW ⟨es,fs,[],ps⟩ m'∧res=⟨m'.vw a b,[]⟩:=by
 obtain⟨nn,uc,en⟩:=bo q1 60 (by decide) (by decide)
 obtain⟨kk,ud,ek⟩:=bo q2 64 (by decide) (by decide)
 have hF:=h.ah;have hP:=h.aw;have hE:=h.an;have hW:=h.ways
 dsimp only at hF hP hE hW
 refine Ev.cQ oA (oB _) rfl ?_
 rcases dk with rfl| rfl| rfl| rfl| rfl
 · (conv=>whnf);repeat' ((first| intro g| refine ag.mk _ (aI) ?_| refine ag.mk _ (en) ?_| refine ag.mk _ (ek) ?_| refine ag.mk _ (ec) ?_| refine st ?_| (first| refine b1 ?_ ?_| refine b2 ?_ ?_| refine Br.mk ?_ ?_) <;>intro hc| exact rfl) <;>conv=>whnf)
   refine ag.ex (vV (L:=es) (F:=fs) (by omega) (by omega) h.el _ _ _) ?_
   rintro _ ⟨L',F',h1,h2,h3,rfl⟩
   (conv=>whnf);repeat' ((first| intro g| refine ag.mk _ (aI) ?_| refine ag.mk _ (en) ?_| refine ag.mk _ (ek) ?_| refine ag.mk _ (ec) ?_| refine st ?_| (first| refine b1 ?_ ?_| refine b2 ?_ ?_| refine Br.mk ?_ ?_) <;>intro hc| exact rfl) <;>conv=>whnf)
   refine⟨⟨L',F',[],ps⟩,false,true,?_,rfl⟩
   exact w5 h h1 h2 h3
 · by_cases h0:fs.length=0
   · (conv=>whnf);repeat' ((first| ((refine aH.str (by simp) h5 ?_;intro s)) | intro g| refine ag.mk _ (aI) ?_| refine ag.mk _ (en) ?_| refine ag.mk _ (ek) ?_| refine ag.mk _ (ec) ?_| refine st ?_| (first| refine b1 ?_ ?_| refine b2 ?_ ?_| refine Br.mk ?_ ?_) <;>intro hc| exact rfl) <;>conv=>whnf)
     refine⟨⟨es,fs,[],ps⟩,false,true,?_,rfl⟩
     exact a8 h (by omega)
   · obtain⟨jj,dy,bT⟩:=bN kk (fs.map ar.v).length (by simp;omega)
     have mB:=bT
     rw[List.length_map] at bT
     obtain⟨f,hx⟩: ∃f,fs[jj]? =some f:=⟨_,aL bT⟩
     have ef: (fs.map ar.v)[((kk:Int).tmod ((fs.map ar.v).length:Int)).toNat]? =some f.v:=aC hx dy
     obtain⟨k5,EG,SC⟩:=bN nn 5 (by decide)
     have EG: (nn:Int).tmod 5=(k5:Int):=EG
     have h5: ((nn:Int).tmod 5).toNat< 5:=by omega
     (conv=>whnf);repeat' ((first| ((refine aH.str (by simp) h5 ?_;intro s)) | intro g| refine aH.mk _ (ef) ?_| refine aH.mk _ (bH (f:=ar.v) (⟨f.id,s,f.name,f.weight,f.bg⟩:ar) (by first| (simp;done) | fail)) ?_| refine ag.mk _ (aI) ?_| refine ag.mk _ (en) ?_| refine ag.mk _ (ek) ?_| refine ag.mk _ (ec) ?_| refine st ?_| (first| refine b1 ?_ ?_| refine b2 ?_ ?_| refine Br.mk ?_ ?_) <;>intro hc| exact rfl) <;>conv=>whnf)
     refine⟨⟨es,_,[],ps⟩,false,true,?_,rfl⟩
     exact a8 h (by simp)
 · by_cases h0:fs.length=0
   · (conv=>whnf);repeat' ((first| intro g| refine ag.mk _ (aI) ?_| refine ag.mk _ (en) ?_| refine ag.mk _ (ek) ?_| refine ag.mk _ (ec) ?_| refine st ?_| (first| refine b1 ?_ ?_| refine b2 ?_ ?_| refine Br.mk ?_ ?_) <;>intro hc| exact rfl) <;>conv=>whnf)
     refine⟨⟨es,fs,[],ps⟩,false,true,?_,rfl⟩
     exact a8 h (by omega)
   · obtain⟨jj,dy,bT⟩:=bN kk (fs.map ar.v).length (by simp;omega)
     have mB:=bT
     rw[List.length_map] at bT
     obtain⟨f,hx⟩: ∃f,fs[jj]? =some f:=⟨_,aL bT⟩
     have ef: (fs.map ar.v)[((kk:Int).tmod ((fs.map ar.v).length:Int)).toNat]? =some f.v:=aC hx dy
     obtain⟨s,hs⟩:=dt nn
     (conv=>whnf);repeat' ((first| intro g| refine aH.mk _ (ef) ?_| refine aH.mk _ (bH (f:=ar.v) (⟨f.id,f.cls,s,f.weight,f.bg⟩:ar) (by first| (simp;done) | fail)) ?_| refine ag.mk _ (aI) ?_| refine ag.mk _ (en) ?_| refine ag.mk _ (ek) ?_| refine ag.mk _ (ec) ?_| refine ag.mk _ (hs) ?_| refine st ?_| (first| refine b1 ?_ ?_| refine b2 ?_ ?_| refine Br.mk ?_ ?_) <;>intro hc| exact rfl) <;>conv=>whnf)
     refine⟨⟨es,_,[],ps⟩,false,true,?_,rfl⟩
     exact a8 h (by simp)
 · by_cases h0:fs.length=0
   · (conv=>whnf);repeat' ((first| intro g| refine ag.mk _ (aI) ?_| refine ag.mk _ (en) ?_| refine ag.mk _ (ek) ?_| refine ag.mk _ (ec) ?_| refine st ?_| (first| refine b1 ?_ ?_| refine b2 ?_ ?_| refine Br.mk ?_ ?_) <;>intro hc| exact rfl) <;>conv=>whnf)
     refine⟨⟨es,fs,[],ps⟩,false,true,?_,rfl⟩
     exact a8 h (by omega)
   · obtain⟨jj,dy,bT⟩:=bN kk (fs.map ar.v).length (by simp;omega)
     have mB:=bT
     rw[List.length_map] at bT
     obtain⟨f,hx⟩: ∃f,fs[jj]? =some f:=⟨_,aL bT⟩
     have ef: (fs.map ar.v)[((kk:Int).tmod ((fs.map ar.v).length:Int)).toNat]? =some f.v:=aC hx dy
     (conv=>whnf);repeat' ((first| intro g| refine aH.mk _ (ef) ?_| refine aH.mk _ (bH (f:=ar.v) (⟨f.id,f.cls,f.name,IntKind.i64.wrap ((nn:Int)*6),f.bg⟩:ar) (by first| (simp;done) | fail)) ?_| refine ag.mk _ (aI) ?_| refine ag.mk _ (en) ?_| refine ag.mk _ (ek) ?_| refine ag.mk _ (ec) ?_| refine st ?_| (first| refine b1 ?_ ?_| refine b2 ?_ ?_| refine Br.mk ?_ ?_) <;>intro hc| exact rfl) <;>conv=>whnf)
     refine⟨⟨es,_,[],ps⟩,false,true,?_,rfl⟩
     exact a8 h (by simp)
 · by_cases h0:fs.length=0
   · (conv=>whnf);repeat' ((first| intro g| refine ag.mk _ (aI) ?_| refine ag.mk _ (en) ?_| refine ag.mk _ (ek) ?_| refine ag.mk _ (ec) ?_| refine st ?_| (first| refine b1 ?_ ?_| refine b2 ?_ ?_| refine Br.mk ?_ ?_) <;>intro hc| exact rfl) <;>conv=>whnf)
     refine⟨⟨es,fs,[],ps⟩,false,true,?_,rfl⟩
     exact a8 h (by omega)
   · obtain⟨jj,dy,bT⟩:=bN kk (fs.map ar.v).length (by simp;omega)
     have mB:=bT
     rw[List.length_map] at bT
     obtain⟨f,hx⟩: ∃f,fs[jj]? =some f:=⟨_,aL bT⟩
     have ef: (fs.map ar.v)[((kk:Int).tmod ((fs.map ar.v).length:Int)).toNat]? =some f.v:=aC hx dy
     (conv=>whnf);repeat' ((first| intro g| refine aH.mk _ (ef) ?_| refine aH.mk _ (bH (f:=ar.v) (⟨f.id,f.cls,f.name,f.weight,(nn:Int).tmod 18⟩:ar) (by first| (simp;done) | fail)) ?_| refine ag.mk _ (aI) ?_| refine ag.mk _ (en) ?_| refine ag.mk _ (ek) ?_| refine ag.mk _ (ec) ?_| refine st ?_| (first| refine b1 ?_ ?_| refine b2 ?_ ?_| refine Br.mk ?_ ?_) <;>intro hc| exact rfl) <;>conv=>whnf)
     refine⟨⟨es,_,[],ps⟩,false,true,?_,rfl⟩
     exact a8 h (by simp)
end Go.AM
set_option maxRecDepth 20000
namespace Go.AM
set_option maxHeartbeats 8000000 in
theorem CH {es:List Edge} {fs:List ar} {ps:List Place} (h:aG.Small ⟨es,fs,[],ps⟩) (q0 q1 q2:Int) (aI:Ev E 92 [aG.v ⟨es,fs,[],ps⟩] ⟨.agg [.own 4 (es.map Edge.v),.own 5 (fs.map ar.v),.nils,.own 7 (ps.map Place.v)],[]⟩)
   (cc:Nat) (ec:Ev E 93 [vi q0,vi ((17:Nat):Int)] ⟨aF cc,[]⟩) (dk:cc=5∨cc=6∨cc=7∨cc=8∨cc=9):
   ∃res,Ev E 79 [aG.v ⟨es,fs,[],ps⟩,ll q0 q1 q2] res∧ ∃ (m':aG) (a b:Bool),jW ⟨es,fs,[],ps⟩ m'∧res=⟨m'.vw a b,[]⟩:=by
 obtain⟨nn,uc,en⟩:=bo q1 60 (by decide) (by decide)
 obtain⟨kk,ud,ek⟩:=bo q2 64 (by decide) (by decide)
 have hF:=h.ah;have hP:=h.aw;have hE:=h.an;have hW:=h.ways
 dsimp only at hF hP hE hW
 refine Ev.cQ oA (oB _) rfl ?_
 rcases dk with rfl| rfl| rfl| rfl| rfl
 · (conv=>whnf);repeat' ((first| intro g| refine ag.mk _ (aI) ?_| refine ag.mk _ (en) ?_| refine ag.mk _ (ek) ?_| refine ag.mk _ (ec) ?_| refine st ?_| (first| refine b1 ?_ ?_| refine b2 ?_ ?_| refine Br.mk ?_ ?_) <;>intro hc| exact rfl) <;>conv=>whnf)
   refine⟨⟨es,fs,[],ps⟩,false,true,?_,rfl⟩
   exact a8 h (by omega)
 · (conv=>whnf);repeat' ((first| intro g| refine ag.mk _ (aI) ?_| refine ag.mk _ (en) ?_| refine ag.mk _ (ek) ?_| refine ag.mk _ (ec) ?_| refine st ?_| (first| refine b1 ?_ ?_| refine b2 ?_ ?_| refine Br.mk ?_ ?_) <;>intro hc| exact rfl) <;>conv=>whnf)
   refine⟨⟨es,fs,[],ps⟩,false,true,?_,rfl⟩
   exact a8 h (by omega)
 · (conv=>whnf);repeat' ((first| intro g| refine ag.mk _ (aI) ?_| refine ag.mk _ (en) ?_| refine ag.mk _ (ek) ?_| refine ag.mk _ (ec) ?_| refine st ?_| (first| refine b1 ?_ ?_| refine b2 ?_ ?_| refine Br.mk ?_ ?_) <;>intro hc| exact rfl) <;>conv=>whnf)
   refine⟨⟨es,fs,[],ps⟩,false,true,?_,rfl⟩
   exact a8 h (by omega)
 · (conv=>whnf);repeat' ((first| intro g| refine ag.mk _ (aI) ?_| refine ag.mk _ (en) ?_| refine ag.mk _ (ek) ?_| refine ag.mk _ (ec) ?_| refine st ?_| (first| refine b1 ?_ ?_| refine b2 ?_ ?_| refine Br.mk ?_ ?_) <;>intro hc| exact rfl) <;>conv=>whnf)
   refine⟨⟨es,fs,[],ps⟩,false,true,?_,rfl⟩
   exact a8 h (by omega)
 · obtain⟨s,hs⟩:=dt kk
   (conv=>whnf);repeat' ((first| intro g| refine ag.mk _ (aI) ?_| refine ag.mk _ (en) ?_| refine ag.mk _ (ek) ?_| refine ag.mk _ (ec) ?_| refine ag.mk _ (hs) ?_| refine st ?_| (first| refine b1 ?_ ?_| refine b2 ?_ ?_| refine Br.mk ?_ ?_) <;>intro hc| exact rfl) <;>conv=>whnf)
   refine⟨⟨es,fs,[(⟨IntKind.i64.wrap (30+(nn:Int)),[⟨IntKind.i64.wrap (10*(nn:Int)),20⟩,⟨55,65⟩],(kk:Int).tmod 2,[112,97,116,104],s,false,IntKind.i64.wrap (1+(nn:Int)),IntKind.i64.wrap (1+(kk:Int).tmod 3)⟩:Way)],ps⟩,false,false,?_,rfl⟩
   exact iQ h (by simp) (by simp)
end Go.AM
set_option maxRecDepth 20000
namespace Go.AM
set_option maxHeartbeats 8000000 in
theorem CI {es:List Edge} {fs:List ar} {ps:List Place} (h:aG.Small ⟨es,fs,[],ps⟩) (q0 q1 q2:Int) (aI:Ev E 92 [aG.v ⟨es,fs,[],ps⟩] ⟨.agg [.own 4 (es.map Edge.v),.own 5 (fs.map ar.v),.nils,.own 7 (ps.map Place.v)],[]⟩)
   (cc:Nat) (ec:Ev E 93 [vi q0,vi ((17:Nat):Int)] ⟨aF cc,[]⟩) (dk:cc=10∨cc=11∨cc=12∨cc=13):
   ∃res,Ev E 79 [aG.v ⟨es,fs,[],ps⟩,ll q0 q1 q2] res∧ ∃ (m':aG) (a b:Bool),jW ⟨es,fs,[],ps⟩ m'∧res=⟨m'.vw a b,[]⟩:=by
 obtain⟨nn,uc,en⟩:=bo q1 60 (by decide) (by decide)
 obtain⟨kk,ud,ek⟩:=bo q2 64 (by decide) (by decide)
 have hF:=h.ah;have hP:=h.aw;have hE:=h.an;have hW:=h.ways
 dsimp only at hF hP hE hW
 refine Ev.cQ oA (oB _) rfl ?_
 rcases dk with rfl| rfl| rfl| rfl
 · by_cases h0:ps.length=0
   · (conv=>whnf);repeat' ((first| intro g| refine ag.mk _ (aI) ?_| refine ag.mk _ (en) ?_| refine ag.mk _ (ek) ?_| refine ag.mk _ (ec) ?_| refine st ?_| (first| refine b1 ?_ ?_| refine b2 ?_ ?_| refine Br.mk ?_ ?_) <;>intro hc| exact rfl) <;>conv=>whnf)
     refine⟨⟨es,fs,[],ps⟩,false,true,?_,rfl⟩
     exact a8 h (by omega)
   · obtain⟨jj,dy,bT⟩:=bN kk (ps.map Place.v).length (by simp;omega)
     have mB:=bT
     rw[List.length_map] at bT
     obtain⟨f,hx⟩: ∃f,ps[jj]? =some f:=⟨_,aL bT⟩
     have ef: (ps.map Place.v)[((kk:Int).tmod ((ps.map Place.v).length:Int)).toNat]? =some f.v:=aC hx dy
     (conv=>whnf);repeat' ((first| intro g| refine aH.mk _ (ef) ?_| refine aH.mk _ (bH (f:=Place.v) (⟨f.id,IntKind.i64.wrap (IntKind.i64.wrap (f.x+(nn:Int)) - 30),IntKind.i64.wrap (IntKind.i64.wrap (f.y+(kk:Int)) - 30),f.cls,f.name,f.weight,f.bg⟩:Place) (by first| (simp;done) | fail)) ?_| refine ag.mk _ (aI) ?_| refine ag.mk _ (en) ?_| refine ag.mk _ (ek) ?_| refine ag.mk _ (ec) ?_| refine st ?_| (first| refine b1 ?_ ?_| refine b2 ?_ ?_| refine Br.mk ?_ ?_) <;>intro hc| exact rfl) <;>conv=>whnf)
     refine⟨⟨es,fs,[],_⟩,false,true,?_,rfl⟩
     exact dd h (.inl (by simp))
 · by_cases h0:ps.length=0
   · (conv=>whnf);repeat' ((first| intro g| refine ag.mk _ (aI) ?_| refine ag.mk _ (en) ?_| refine ag.mk _ (ek) ?_| refine ag.mk _ (ec) ?_| refine st ?_| (first| refine b1 ?_ ?_| refine b2 ?_ ?_| refine Br.mk ?_ ?_) <;>intro hc| exact rfl) <;>conv=>whnf)
     refine⟨⟨es,fs,[],ps⟩,false,true,?_,rfl⟩
     exact a8 h (by omega)
   · obtain⟨jj,dy,bT⟩:=bN kk (ps.map Place.v).length (by simp;omega)
     have mB:=bT
     rw[List.length_map] at bT
     obtain⟨f,hx⟩: ∃f,ps[jj]? =some f:=⟨_,aL bT⟩
     have ef: (ps.map Place.v)[((kk:Int).tmod ((ps.map Place.v).length:Int)).toNat]? =some f.v:=aC hx dy
     (conv=>whnf);repeat' ((first| intro g| refine aH.mk _ (ef) ?_| refine aH.mk _ (bH (f:=Place.v) (⟨f.id,f.x,f.y,f.cls,f.name,f.weight,(nn:Int).tmod 18⟩:Place) (by first| (simp;done) | fail)) ?_| refine ag.mk _ (aI) ?_| refine ag.mk _ (en) ?_| refine ag.mk _ (ek) ?_| refine ag.mk _ (ec) ?_| refine st ?_| (first| refine b1 ?_ ?_| refine b2 ?_ ?_| refine Br.mk ?_ ?_) <;>intro hc| exact rfl) <;>conv=>whnf)
     refine⟨⟨es,fs,[],_⟩,false,true,?_,rfl⟩
     exact dd h (.inl (by simp))
 · by_cases h0:ps.length=0
   · (conv=>whnf);repeat' ((first| intro g| refine ag.mk _ (aI) ?_| refine ag.mk _ (en) ?_| refine ag.mk _ (ek) ?_| refine ag.mk _ (ec) ?_| refine st ?_| (first| refine b1 ?_ ?_| refine b2 ?_ ?_| refine Br.mk ?_ ?_) <;>intro hc| exact rfl) <;>conv=>whnf)
     refine⟨⟨es,fs,[],ps⟩,false,true,?_,rfl⟩
     exact a8 h (by omega)
   · obtain⟨jj,dy,bT⟩:=bN kk (ps.map Place.v).length (by simp;omega)
     have mB:=bT
     rw[List.length_map] at bT
     obtain⟨f,hx⟩: ∃f,ps[jj]? =some f:=⟨_,aL bT⟩
     have ef: (ps.map Place.v)[((kk:Int).tmod ((ps.map Place.v).length:Int)).toNat]? =some f.v:=aC hx dy
     obtain⟨s,hs⟩:=dt nn
     (conv=>whnf);repeat' ((first| intro g| refine aH.mk _ (ef) ?_| refine aH.mk _ (bH (f:=Place.v) (⟨f.id,f.x,f.y,f.cls,s,f.weight,f.bg⟩:Place) (by first| (simp;done) | fail)) ?_| refine ag.mk _ (aI) ?_| refine ag.mk _ (en) ?_| refine ag.mk _ (ek) ?_| refine ag.mk _ (ec) ?_| refine ag.mk _ (hs) ?_| refine st ?_| (first| refine b1 ?_ ?_| refine b2 ?_ ?_| refine Br.mk ?_ ?_) <;>intro hc| exact rfl) <;>conv=>whnf)
     refine⟨⟨es,fs,[],_⟩,false,true,?_,rfl⟩
     exact dd h (.inl (by simp))
 · by_cases h0:ps.length=0
   · (conv=>whnf);repeat' ((first| intro g| refine ag.mk _ (aI) ?_| refine ag.mk _ (en) ?_| refine ag.mk _ (ek) ?_| refine ag.mk _ (ec) ?_| refine st ?_| (first| refine b1 ?_ ?_| refine b2 ?_ ?_| refine Br.mk ?_ ?_) <;>intro hc| exact rfl) <;>conv=>whnf)
     refine⟨⟨es,fs,[],ps⟩,false,true,?_,rfl⟩
     exact a8 h (by omega)
   · obtain⟨jj,dy,bT⟩:=bN kk (ps.map Place.v).length (by simp;omega)
     have GP: ((kk:Int).tmod ((ps.map Place.v).length:Int)).toNat=jj:=by rw[dy];rfl
     have hw:IntKind.i64.wrap ((kk:Int).tmod ((ps.map Place.v).length:Int)+1)=((jj+1:Nat):Int):=by rw[dy];exact(wrap64 (by rw[List.length_map] at bT;omega) (by rw[List.length_map] at bT;omega)).trans (by omega)
     have CA: (IntKind.i64.wrap ((kk:Int).tmod ((ps.map Place.v).length:Int)+1)).toNat=jj+1:=by rw[hw];rfl
     have Nk: (ps.map Place.v).length=ps.length:=List.length_map ..
     have Nl: ((ps.drop (jj+1)).map Place.v).length=ps.length - (jj+1):=by simp
     (conv=>whnf);repeat' ((first| intro g| refine eY.mk (⟨nQ (by first| omega| fail) (by first| omega| fail),AM.cN (fun _=>rfl) _⟩) ?_| refine aH.mk _ (kK (f:=Place.v) (j:=jj) (by first| omega| fail) (by first| omega| fail)) ?_| refine aH.mk _ (nR (f:=Place.v) (j:=jj) (by first| omega| fail) (by first| omega| fail) (by first| omega| fail)) ?_| refine ag.mk _ (aI) ?_| refine ag.mk _ (en) ?_| refine ag.mk _ (ek) ?_| refine ag.mk _ (ec) ?_| refine st ?_| (first| refine b1 ?_ ?_| refine b2 ?_ ?_| refine Br.mk ?_ ?_) <;>intro hc| exact rfl) <;>conv=>whnf)
     refine⟨⟨es,fs,[],_⟩,false,true,?_,rfl⟩
     exact dd h (.inl (by simp;omega))
end Go.AM
set_option maxRecDepth 20000
namespace Go.AM
set_option maxHeartbeats 8000000 in
theorem CJ {es:List Edge} {fs:List ar} {ps:List Place} (h:aG.Small ⟨es,fs,[],ps⟩) (q0 q1 q2:Int) (aI:Ev E 92 [aG.v ⟨es,fs,[],ps⟩] ⟨.agg [.own 4 (es.map Edge.v),.own 5 (fs.map ar.v),.nils,.own 7 (ps.map Place.v)],[]⟩)
   (cc:Nat) (ec:Ev E 93 [vi q0,vi ((17:Nat):Int)] ⟨aF cc,[]⟩) (dk:cc=14∨cc=15∨cc=16):
   ∃res,Ev E 79 [aG.v ⟨es,fs,[],ps⟩,ll q0 q1 q2] res∧ ∃ (m':aG) (a b:Bool),jW ⟨es,fs,[],ps⟩ m'∧res=⟨m'.vw a b,[]⟩:=by
 obtain⟨nn,uc,en⟩:=bo q1 60 (by decide) (by decide)
 obtain⟨kk,ud,ek⟩:=bo q2 64 (by decide) (by decide)
 have hF:=h.ah;have hP:=h.aw;have hE:=h.an;have hW:=h.ways
 dsimp only at hF hP hE hW
 refine Ev.cQ oA (oB _) rfl ?_
 rcases dk with rfl| rfl| rfl
 · obtain⟨s,hs⟩:=dt kk
   obtain⟨k4,lJ,GQ⟩:=bN nn 4 (by decide)
   have lJ: (nn:Int).tmod 4=k4:=lJ
   obtain⟨y,hy⟩: ∃y:Int,[V.int .i64 0,V.int .i64 1073741824,V.int .i64 1073741825,V.int .i64 70][((nn:Int).tmod 4).toNat]? =some (vi y):=by
     rw[lJ]
     rcases(by omega:k4=0∨k4=1∨k4=2∨k4=3) with rfl| rfl| rfl| rfl<;>exact⟨_,rfl⟩
   have ue:aO (ps.map Place.v++[Place.v (⟨IntKind.i64.wrap (y+IntKind.i64.wrap ((nn:Int).tdiv 4)),IntKind.i64.wrap (50+IntKind.i64.wrap (5*(nn:Int))),IntKind.i64.wrap (50+IntKind.i64.wrap (2*(kk:Int))),[115,104,111,112],s,5,IntKind.i64.wrap (1+(nn:Int).tmod 2)⟩:Place)]) 0 ((ps.map Place.v).length+1)=(ps++[(⟨IntKind.i64.wrap (y+IntKind.i64.wrap ((nn:Int).tdiv 4)),IntKind.i64.wrap (50+IntKind.i64.wrap (5*(nn:Int))),IntKind.i64.wrap (50+IntKind.i64.wrap (2*(kk:Int))),[115,104,111,112],s,5,IntKind.i64.wrap (1+(nn:Int).tmod 2)⟩:Place)]).map Place.v:=by
     rw[show ps.map Place.v++[Place.v (⟨IntKind.i64.wrap (y+IntKind.i64.wrap ((nn:Int).tdiv 4)),IntKind.i64.wrap (50+IntKind.i64.wrap (5*(nn:Int))),IntKind.i64.wrap (50+IntKind.i64.wrap (2*(kk:Int))),[115,104,111,112],s,5,IntKind.i64.wrap (1+(nn:Int).tmod 2)⟩:Place)]=(ps++[(⟨IntKind.i64.wrap (y+IntKind.i64.wrap ((nn:Int).tdiv 4)),IntKind.i64.wrap (50+IntKind.i64.wrap (5*(nn:Int))),IntKind.i64.wrap (50+IntKind.i64.wrap (2*(kk:Int))),[115,104,111,112],s,5,IntKind.i64.wrap (1+(nn:Int).tmod 2)⟩:Place)]).map Place.v from by simp]
     exact bz (by simp)
   (conv=>whnf);repeat' ((first| intro g| refine aH.mk _ (hy) ?_| refine aH.mk _ (ue) ?_| refine ag.mk _ (aI) ?_| refine ag.mk _ (en) ?_| refine ag.mk _ (ek) ?_| refine ag.mk _ (ec) ?_| refine ag.mk _ (hs) ?_| refine st ?_| (first| refine b1 ?_ ?_| refine b2 ?_ ?_| refine Br.mk ?_ ?_) <;>intro hc| exact rfl) <;>conv=>whnf)
   refine⟨⟨es,fs,[],_⟩,false,true,?_,rfl⟩
   exact dd h (.inl (by simp))
 · by_cases h0:ps.length=0
   · (conv=>whnf);repeat' ((first| intro g| refine ag.mk _ (aI) ?_| refine ag.mk _ (en) ?_| refine ag.mk _ (ek) ?_| refine ag.mk _ (ec) ?_| refine st ?_| (first| refine b1 ?_ ?_| refine b2 ?_ ?_| refine Br.mk ?_ ?_) <;>intro hc| exact rfl) <;>conv=>whnf)
     refine⟨⟨es,fs,[],ps⟩,false,true,?_,rfl⟩
     exact a8 h (by omega)
   · obtain⟨jj,dy,bT⟩:=bN kk (ps.map Place.v).length (by simp;omega)
     have mB:=bT
     rw[List.length_map] at bT
     obtain⟨f,hx⟩: ∃f,ps[jj]? =some f:=⟨_,aL bT⟩
     have ef: (ps.map Place.v)[((kk:Int).tmod ((ps.map Place.v).length:Int)).toNat]? =some f.v:=aC hx dy
     (conv=>whnf);repeat' ((first| intro g| refine aH.mk _ (ef) ?_| refine aH.mk _ (bH (f:=Place.v) (⟨f.id,f.x,f.y,f.cls,f.name,IntKind.i64.wrap ((nn:Int)*5),f.bg⟩:Place) (by first| (simp;done) | fail)) ?_| refine ag.mk _ (aI) ?_| refine ag.mk _ (en) ?_| refine ag.mk _ (ek) ?_| refine ag.mk _ (ec) ?_| refine st ?_| (first| refine b1 ?_ ?_| refine b2 ?_ ?_| refine Br.mk ?_ ?_) <;>intro hc| exact rfl) <;>conv=>whnf)
     refine⟨⟨es,fs,[],_⟩,false,true,?_,rfl⟩
     exact dd h (.inl (by simp))
 · obtain⟨k4,lJ,GQ⟩:=bN nn 4 (by decide)
   have lJ: (nn:Int).tmod 4=k4:=lJ
   have SD:IntKind.i64.wrap (79+(nn:Int).tmod 4)=((79+k4:Nat):Int):=by rw[lJ];exact(wrap64 (by omega) (by omega)).trans (by omega)
   (conv=>whnf);repeat' ((first| intro g| refine ag.mk _ (aI) ?_| refine ag.mk _ (en) ?_| refine ag.mk _ (ek) ?_| refine ag.mk _ (ec) ?_| refine st ?_| (first| refine b1 ?_ ?_| refine b2 ?_ ?_| refine Br.mk ?_ ?_) <;>intro hc| exact rfl) <;>conv=>whnf)
   rename_i EH gE gF gP
   obtain⟨mi,uf⟩: ∃x,x=g:=⟨_,rfl⟩
   rw[←uf];clear uf
   refine ba.by (fun ((i,gp):Nat×Nat)=> ⟨[(4,.ptr 80 EH 0 0),(5,.ptr 96 mi 0 0),(6,aF nn),(9,aF i)],[(80,⟨EH,4,false,false,some [.agg [.lit 4 [],.lit 5 [],.lit 8 [],.lit 7 []]]⟩),(96,⟨mi,4,false,false,some [.agg [.sl 192 gE 0 (es.map Edge.v).length,.sl 193 gF 0 (fs.map ar.v).length,.nils,.sl 195 gp 0 (ps.length+i)]]⟩),(192,⟨gE,4,true,false,some (es.map Edge.v)⟩),(193,⟨gF,5,true,false,some (fs.map ar.v)⟩),(195,⟨gp,7,true,false,some ((ps++(List.range i).map jF).map Place.v)⟩)]⟩)
     (fun (i,_)=>i≤79+k4) (fun (i,_)=>79+k4 - i) (0,gP) (by(refine⟨?_,?_⟩ <;>repeat' (first| exact True.intro| refine ai ?_| refine And.intro ?_ ?_))) (by simp) ?_
   rintro⟨i,gp⟩ hi
   try dsimp only at hi
   have hlen: ((ps++(List.range i).map jF).map Place.v).length=ps.length+i:=by simp
   by_cases bk:i< 79+k4
   · (conv=>whnf);repeat' ((first| (refine Or.inl (eY.mk ⟨rfl,hlen,by simp;omega⟩ ?_)) | intro g| refine st ?_| (first| refine b1 ?_ ?_| refine b2 ?_ ?_| refine Br.mk ?_ ?_) <;>intro hc| exact rfl) <;>conv=>whnf)
     exact bc.mk (i+1,g) (by first| omega| (dsimp only;omega)) (by first| omega| (dsimp only;omega)) (by(refine⟨?_,?_⟩ <;>repeat' (first| exact True.intro| refine And.intro (congrArg (fun L=> (⟨g,7,true,false,some L⟩:Obj)) (lK ps i)) ?_| refine ai ?_| refine And.intro ?_ ?_)))
   · obtain rfl:i=79+k4:=by omega
     (conv=>whnf);repeat' ((first| intro g| refine aH.mk _ (bz (by first| (simp;done) | fail)) ?_| refine st ?_| (first| refine b1 ?_ ?_| refine b2 ?_ ?_| refine Br.mk ?_ ?_) <;>intro hc| exact rfl) <;>conv=>whnf)
     refine⟨⟨es,fs,[],_⟩,false,true,?_,rfl⟩
     exact dd h (.inr ⟨79+k4,jF,by omega,fun i hi=> (wrap64 (by omega) (by omega)),rfl⟩)
end Go.AM
