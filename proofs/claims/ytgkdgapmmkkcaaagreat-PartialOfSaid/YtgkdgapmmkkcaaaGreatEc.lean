/-
  Texts of the proof, joined by program: SOddEonA, SOddEonB, SOddEonC, SOddEonD. Own work.
-/
import Derived.Test.YtgkdgapmmkkcaaaGreatOc
import Derived.KernelRfl
set_option linter.unusedSimpArgs false
set_option linter.unusedVariables false
set_option maxRecDepth 20000
namespace Go.AM
set_option maxHeartbeats 8000000 in
theorem AP {es:List Edge} {fs:List aK} {ps:List Place} (h:br.Small ⟨es,fs,[],ps⟩) (q0 q1 q2:Int) (aD:Ev E 92 [br.v ⟨es,fs,[],ps⟩] ⟨.agg [.own 4 (es.map Edge.v),.own 5 (fs.map aK.v),.nils,.own 7 (ps.map Place.v)],[]⟩)
   (cc:Nat) (ec:Ev E 93 [vi q0,vi ((17:Nat):Int)] ⟨aT cc,[]⟩) (c7:cc=0∨cc=1∨cc=2∨cc=3∨cc=4):
   ∃res,Ev E 79 [br.v ⟨es,fs,[],ps⟩,kp q0 q1 q2] res∧ ∃ (m':br) (a b:Bool),jx ⟨es,fs,[],ps⟩ m'∧res=⟨m'.vw a b,[]⟩:=by
 obtain⟨nn,sy,en⟩:=bd q1 60 (by decide) (by decide)
 obtain⟨kk,sA,ek⟩:=bd q2 64 (by decide) (by decide)
 have hF:=h.bp;have hP:=h.aW;have hE:=h.bZ;have hW:=h.ways
 dsimp only at hF hP hE hW
 refine Ev.cQ nk (np _) rfl ?_
 rcases c7 with rfl| rfl| rfl| rfl| rfl
 · (conv=>whnf);repeat' ((first| intro g| refine ag.mk _ (aD) ?_| refine ag.mk _ (en) ?_| refine ag.mk _ (ek) ?_| refine ag.mk _ (ec) ?_| refine st ?_| (first| refine b1 ?_ ?_| refine b2 ?_ ?_| refine Br.mk ?_ ?_) <;>intro hc| exact rfl) <;>conv=>whnf)
   refine ag.ex (uB (L:=es) (F:=fs) (by omega) (by omega) h.el _ _ _) ?_
   rintro _ ⟨L',F',h1,h2,h3,rfl⟩
   (conv=>whnf);repeat' ((first| intro g| refine ag.mk _ (aD) ?_| refine ag.mk _ (en) ?_| refine ag.mk _ (ek) ?_| refine ag.mk _ (ec) ?_| refine st ?_| (first| refine b1 ?_ ?_| refine b2 ?_ ?_| refine Br.mk ?_ ?_) <;>intro hc| exact rfl) <;>conv=>whnf)
   refine⟨⟨L',F',[],ps⟩,false,true,?_,rfl⟩
   exact vy h h1 h2 h3
 · by_cases h0:fs.length=0
   · (conv=>whnf);repeat' ((first| ((refine aL.str (by simp) h5 ?_;intro s)) | intro g| refine ag.mk _ (aD) ?_| refine ag.mk _ (en) ?_| refine ag.mk _ (ek) ?_| refine ag.mk _ (ec) ?_| refine st ?_| (first| refine b1 ?_ ?_| refine b2 ?_ ?_| refine Br.mk ?_ ?_) <;>intro hc| exact rfl) <;>conv=>whnf)
     refine⟨⟨es,fs,[],ps⟩,false,true,?_,rfl⟩
     exact aV h (by omega)
   · obtain⟨jj,dg,bM⟩:=bG kk (fs.map aK.v).length (by simp;omega)
     have lH:=bM
     rw[List.length_map] at bM
     obtain⟨f,hx⟩: ∃f,fs[jj]? =some f:=⟨_,aJ bM⟩
     have dG: (fs.map aK.v)[((kk:Int).tmod ((fs.map aK.v).length:Int)).toNat]? =some f.v:=au hx dg
     obtain⟨k5,Cp,Vg⟩:=bG nn 5 (by decide)
     have Cp: (nn:Int).tmod 5=(k5:Int):=Cp
     have h5: ((nn:Int).tmod 5).toNat< 5:=by omega
     (conv=>whnf);repeat' ((first| ((refine aL.str (by simp) h5 ?_;intro s)) | intro g| refine aL.mk _ (dG) ?_| refine aL.mk _ (bB (f:=aK.v) (⟨f.id,s,f.name,f.weight,f.fb⟩:aK) (by first| (simp;done) | fail)) ?_| refine ag.mk _ (aD) ?_| refine ag.mk _ (en) ?_| refine ag.mk _ (ek) ?_| refine ag.mk _ (ec) ?_| refine st ?_| (first| refine b1 ?_ ?_| refine b2 ?_ ?_| refine Br.mk ?_ ?_) <;>intro hc| exact rfl) <;>conv=>whnf)
     refine⟨⟨es,_,[],ps⟩,false,true,?_,rfl⟩
     exact aV h (by simp)
 · by_cases h0:fs.length=0
   · (conv=>whnf);repeat' ((first| intro g| refine ag.mk _ (aD) ?_| refine ag.mk _ (en) ?_| refine ag.mk _ (ek) ?_| refine ag.mk _ (ec) ?_| refine st ?_| (first| refine b1 ?_ ?_| refine b2 ?_ ?_| refine Br.mk ?_ ?_) <;>intro hc| exact rfl) <;>conv=>whnf)
     refine⟨⟨es,fs,[],ps⟩,false,true,?_,rfl⟩
     exact aV h (by omega)
   · obtain⟨jj,dg,bM⟩:=bG kk (fs.map aK.v).length (by simp;omega)
     have lH:=bM
     rw[List.length_map] at bM
     obtain⟨f,hx⟩: ∃f,fs[jj]? =some f:=⟨_,aJ bM⟩
     have dG: (fs.map aK.v)[((kk:Int).tmod ((fs.map aK.v).length:Int)).toNat]? =some f.v:=au hx dg
     obtain⟨s,hs⟩:=dc nn
     (conv=>whnf);repeat' ((first| intro g| refine aL.mk _ (dG) ?_| refine aL.mk _ (bB (f:=aK.v) (⟨f.id,f.cls,s,f.weight,f.fb⟩:aK) (by first| (simp;done) | fail)) ?_| refine ag.mk _ (aD) ?_| refine ag.mk _ (en) ?_| refine ag.mk _ (ek) ?_| refine ag.mk _ (ec) ?_| refine ag.mk _ (hs) ?_| refine st ?_| (first| refine b1 ?_ ?_| refine b2 ?_ ?_| refine Br.mk ?_ ?_) <;>intro hc| exact rfl) <;>conv=>whnf)
     refine⟨⟨es,_,[],ps⟩,false,true,?_,rfl⟩
     exact aV h (by simp)
 · by_cases h0:fs.length=0
   · (conv=>whnf);repeat' ((first| intro g| refine ag.mk _ (aD) ?_| refine ag.mk _ (en) ?_| refine ag.mk _ (ek) ?_| refine ag.mk _ (ec) ?_| refine st ?_| (first| refine b1 ?_ ?_| refine b2 ?_ ?_| refine Br.mk ?_ ?_) <;>intro hc| exact rfl) <;>conv=>whnf)
     refine⟨⟨es,fs,[],ps⟩,false,true,?_,rfl⟩
     exact aV h (by omega)
   · obtain⟨jj,dg,bM⟩:=bG kk (fs.map aK.v).length (by simp;omega)
     have lH:=bM
     rw[List.length_map] at bM
     obtain⟨f,hx⟩: ∃f,fs[jj]? =some f:=⟨_,aJ bM⟩
     have dG: (fs.map aK.v)[((kk:Int).tmod ((fs.map aK.v).length:Int)).toNat]? =some f.v:=au hx dg
     (conv=>whnf);repeat' ((first| intro g| refine aL.mk _ (dG) ?_| refine aL.mk _ (bB (f:=aK.v) (⟨f.id,f.cls,f.name,IntKind.i64.wrap ((nn:Int)*6),f.fb⟩:aK) (by first| (simp;done) | fail)) ?_| refine ag.mk _ (aD) ?_| refine ag.mk _ (en) ?_| refine ag.mk _ (ek) ?_| refine ag.mk _ (ec) ?_| refine st ?_| (first| refine b1 ?_ ?_| refine b2 ?_ ?_| refine Br.mk ?_ ?_) <;>intro hc| exact rfl) <;>conv=>whnf)
     refine⟨⟨es,_,[],ps⟩,false,true,?_,rfl⟩
     exact aV h (by simp)
 · by_cases h0:fs.length=0
   · (conv=>whnf);repeat' ((first| intro g| refine ag.mk _ (aD) ?_| refine ag.mk _ (en) ?_| refine ag.mk _ (ek) ?_| refine ag.mk _ (ec) ?_| refine st ?_| (first| refine b1 ?_ ?_| refine b2 ?_ ?_| refine Br.mk ?_ ?_) <;>intro hc| exact rfl) <;>conv=>whnf)
     refine⟨⟨es,fs,[],ps⟩,false,true,?_,rfl⟩
     exact aV h (by omega)
   · obtain⟨jj,dg,bM⟩:=bG kk (fs.map aK.v).length (by simp;omega)
     have lH:=bM
     rw[List.length_map] at bM
     obtain⟨f,hx⟩: ∃f,fs[jj]? =some f:=⟨_,aJ bM⟩
     have dG: (fs.map aK.v)[((kk:Int).tmod ((fs.map aK.v).length:Int)).toNat]? =some f.v:=au hx dg
     (conv=>whnf);repeat' ((first| intro g| refine aL.mk _ (dG) ?_| refine aL.mk _ (bB (f:=aK.v) (⟨f.id,f.cls,f.name,f.weight,(nn:Int).tmod 18⟩:aK) (by first| (simp;done) | fail)) ?_| refine ag.mk _ (aD) ?_| refine ag.mk _ (en) ?_| refine ag.mk _ (ek) ?_| refine ag.mk _ (ec) ?_| refine st ?_| (first| refine b1 ?_ ?_| refine b2 ?_ ?_| refine Br.mk ?_ ?_) <;>intro hc| exact rfl) <;>conv=>whnf)
     refine⟨⟨es,_,[],ps⟩,false,true,?_,rfl⟩
     exact aV h (by simp)
end Go.AM
set_option maxRecDepth 20000
namespace Go.AM
set_option maxHeartbeats 8000000 in
theorem AQ {es:List Edge} {fs:List aK} {ps:List Place} (h:br.Small ⟨es,fs,[],ps⟩) (q0 q1 q2:Int) (aD:Ev E 92 [br.v ⟨es,fs,[],ps⟩] ⟨.agg [.own 4 (es.map Edge.v),.own 5 (fs.map aK.v),.nils,.own 7 (ps.map Place.v)],[]⟩)
   (cc:Nat) (ec:Ev E 93 [vi q0,vi ((17:Nat):Int)] ⟨aT cc,[]⟩) (c7:cc=5∨cc=6∨cc=7∨cc=8∨cc=9):
   ∃res,Ev E 79 [br.v ⟨es,fs,[],ps⟩,kp q0 q1 q2] res∧ ∃ (m':br) (a b:Bool),jx ⟨es,fs,[],ps⟩ m'∧res=⟨m'.vw a b,[]⟩:=by
 obtain⟨nn,sy,en⟩:=bd q1 60 (by decide) (by decide)
 obtain⟨kk,sA,ek⟩:=bd q2 64 (by decide) (by decide)
 have hF:=h.bp;have hP:=h.aW;have hE:=h.bZ;have hW:=h.ways
 dsimp only at hF hP hE hW
 refine Ev.cQ nk (np _) rfl ?_
 rcases c7 with rfl| rfl| rfl| rfl| rfl
 · (conv=>whnf);repeat' ((first| intro g| refine ag.mk _ (aD) ?_| refine ag.mk _ (en) ?_| refine ag.mk _ (ek) ?_| refine ag.mk _ (ec) ?_| refine st ?_| (first| refine b1 ?_ ?_| refine b2 ?_ ?_| refine Br.mk ?_ ?_) <;>intro hc| exact rfl) <;>conv=>whnf)
   refine⟨⟨es,fs,[],ps⟩,false,true,?_,rfl⟩
   exact aV h (by omega)
 · (conv=>whnf);repeat' ((first| intro g| refine ag.mk _ (aD) ?_| refine ag.mk _ (en) ?_| refine ag.mk _ (ek) ?_| refine ag.mk _ (ec) ?_| refine st ?_| (first| refine b1 ?_ ?_| refine b2 ?_ ?_| refine Br.mk ?_ ?_) <;>intro hc| exact rfl) <;>conv=>whnf)
   refine⟨⟨es,fs,[],ps⟩,false,true,?_,rfl⟩
   exact aV h (by omega)
 · (conv=>whnf);repeat' ((first| intro g| refine ag.mk _ (aD) ?_| refine ag.mk _ (en) ?_| refine ag.mk _ (ek) ?_| refine ag.mk _ (ec) ?_| refine st ?_| (first| refine b1 ?_ ?_| refine b2 ?_ ?_| refine Br.mk ?_ ?_) <;>intro hc| exact rfl) <;>conv=>whnf)
   refine⟨⟨es,fs,[],ps⟩,false,true,?_,rfl⟩
   exact aV h (by omega)
 · (conv=>whnf);repeat' ((first| intro g| refine ag.mk _ (aD) ?_| refine ag.mk _ (en) ?_| refine ag.mk _ (ek) ?_| refine ag.mk _ (ec) ?_| refine st ?_| (first| refine b1 ?_ ?_| refine b2 ?_ ?_| refine Br.mk ?_ ?_) <;>intro hc| exact rfl) <;>conv=>whnf)
   refine⟨⟨es,fs,[],ps⟩,false,true,?_,rfl⟩
   exact aV h (by omega)
 · obtain⟨s,hs⟩:=dc kk
   (conv=>whnf);repeat' ((first| intro g| refine ag.mk _ (aD) ?_| refine ag.mk _ (en) ?_| refine ag.mk _ (ek) ?_| refine ag.mk _ (ec) ?_| refine ag.mk _ (hs) ?_| refine st ?_| (first| refine b1 ?_ ?_| refine b2 ?_ ?_| refine Br.mk ?_ ?_) <;>intro hc| exact rfl) <;>conv=>whnf)
   refine⟨⟨es,fs,[(⟨IntKind.i64.wrap (30+(nn:Int)),[⟨IntKind.i64.wrap (10*(nn:Int)),20⟩,⟨55,65⟩],(kk:Int).tmod 2,[112,97,116,104],s,false,IntKind.i64.wrap (1+(nn:Int)),IntKind.i64.wrap (1+(kk:Int).tmod 3)⟩:Way)],ps⟩,false,false,?_,rfl⟩
   exact iu h (by simp) (by simp)
end Go.AM
set_option maxRecDepth 20000
namespace Go.AM
set_option maxHeartbeats 8000000 in
theorem AR {es:List Edge} {fs:List aK} {ps:List Place} (h:br.Small ⟨es,fs,[],ps⟩) (q0 q1 q2:Int) (aD:Ev E 92 [br.v ⟨es,fs,[],ps⟩] ⟨.agg [.own 4 (es.map Edge.v),.own 5 (fs.map aK.v),.nils,.own 7 (ps.map Place.v)],[]⟩)
   (cc:Nat) (ec:Ev E 93 [vi q0,vi ((17:Nat):Int)] ⟨aT cc,[]⟩) (c7:cc=10∨cc=11∨cc=12∨cc=13):
   ∃res,Ev E 79 [br.v ⟨es,fs,[],ps⟩,kp q0 q1 q2] res∧ ∃ (m':br) (a b:Bool),jx ⟨es,fs,[],ps⟩ m'∧res=⟨m'.vw a b,[]⟩:=by
 obtain⟨nn,sy,en⟩:=bd q1 60 (by decide) (by decide)
 obtain⟨kk,sA,ek⟩:=bd q2 64 (by decide) (by decide)
 have hF:=h.bp;have hP:=h.aW;have hE:=h.bZ;have hW:=h.ways
 dsimp only at hF hP hE hW
 refine Ev.cQ nk (np _) rfl ?_
 rcases c7 with rfl| rfl| rfl| rfl
 · by_cases h0:ps.length=0
   · (conv=>whnf);repeat' ((first| intro g| refine ag.mk _ (aD) ?_| refine ag.mk _ (en) ?_| refine ag.mk _ (ek) ?_| refine ag.mk _ (ec) ?_| refine st ?_| (first| refine b1 ?_ ?_| refine b2 ?_ ?_| refine Br.mk ?_ ?_) <;>intro hc| exact rfl) <;>conv=>whnf)
     refine⟨⟨es,fs,[],ps⟩,false,true,?_,rfl⟩
     exact aV h (by omega)
   · obtain⟨jj,dg,bM⟩:=bG kk (ps.map Place.v).length (by simp;omega)
     have lH:=bM
     rw[List.length_map] at bM
     obtain⟨f,hx⟩: ∃f,ps[jj]? =some f:=⟨_,aJ bM⟩
     have dG: (ps.map Place.v)[((kk:Int).tmod ((ps.map Place.v).length:Int)).toNat]? =some f.v:=au hx dg
     (conv=>whnf);repeat' ((first| intro g| refine aL.mk _ (dG) ?_| refine aL.mk _ (bB (f:=Place.v) (⟨f.id,IntKind.i64.wrap (IntKind.i64.wrap (f.x+(nn:Int)) - 30),IntKind.i64.wrap (IntKind.i64.wrap (f.y+(kk:Int)) - 30),f.cls,f.name,f.weight,f.fb⟩:Place) (by first| (simp;done) | fail)) ?_| refine ag.mk _ (aD) ?_| refine ag.mk _ (en) ?_| refine ag.mk _ (ek) ?_| refine ag.mk _ (ec) ?_| refine st ?_| (first| refine b1 ?_ ?_| refine b2 ?_ ?_| refine Br.mk ?_ ?_) <;>intro hc| exact rfl) <;>conv=>whnf)
     refine⟨⟨es,fs,[],_⟩,false,true,?_,rfl⟩
     exact cS h (.inl (by simp))
 · by_cases h0:ps.length=0
   · (conv=>whnf);repeat' ((first| intro g| refine ag.mk _ (aD) ?_| refine ag.mk _ (en) ?_| refine ag.mk _ (ek) ?_| refine ag.mk _ (ec) ?_| refine st ?_| (first| refine b1 ?_ ?_| refine b2 ?_ ?_| refine Br.mk ?_ ?_) <;>intro hc| exact rfl) <;>conv=>whnf)
     refine⟨⟨es,fs,[],ps⟩,false,true,?_,rfl⟩
     exact aV h (by omega)
   · obtain⟨jj,dg,bM⟩:=bG kk (ps.map Place.v).length (by simp;omega)
     have lH:=bM
     rw[List.length_map] at bM
     obtain⟨f,hx⟩: ∃f,ps[jj]? =some f:=⟨_,aJ bM⟩
     have dG: (ps.map Place.v)[((kk:Int).tmod ((ps.map Place.v).length:Int)).toNat]? =some f.v:=au hx dg
     (conv=>whnf);repeat' ((first| intro g| refine aL.mk _ (dG) ?_| refine aL.mk _ (bB (f:=Place.v) (⟨f.id,f.x,f.y,f.cls,f.name,f.weight,(nn:Int).tmod 18⟩:Place) (by first| (simp;done) | fail)) ?_| refine ag.mk _ (aD) ?_| refine ag.mk _ (en) ?_| refine ag.mk _ (ek) ?_| refine ag.mk _ (ec) ?_| refine st ?_| (first| refine b1 ?_ ?_| refine b2 ?_ ?_| refine Br.mk ?_ ?_) <;>intro hc| exact rfl) <;>conv=>whnf)
     refine⟨⟨es,fs,[],_⟩,false,true,?_,rfl⟩
     exact cS h (.inl (by simp))
 · by_cases h0:ps.length=0
   · (conv=>whnf);repeat' ((first| intro g| refine ag.mk _ (aD) ?_| refine ag.mk _ (en) ?_| refine ag.mk _ (ek) ?_| refine ag.mk _ (ec) ?_| refine st ?_| (first| refine b1 ?_ ?_| refine b2 ?_ ?_| refine Br.mk ?_ ?_) <;>intro hc| exact rfl) <;>conv=>whnf)
     refine⟨⟨es,fs,[],ps⟩,false,true,?_,rfl⟩
     exact aV h (by omega)
   · obtain⟨jj,dg,bM⟩:=bG kk (ps.map Place.v).length (by simp;omega)
     have lH:=bM
     rw[List.length_map] at bM
     obtain⟨f,hx⟩: ∃f,ps[jj]? =some f:=⟨_,aJ bM⟩
     have dG: (ps.map Place.v)[((kk:Int).tmod ((ps.map Place.v).length:Int)).toNat]? =some f.v:=au hx dg
     obtain⟨s,hs⟩:=dc nn
     (conv=>whnf);repeat' ((first| intro g| refine aL.mk _ (dG) ?_| refine aL.mk _ (bB (f:=Place.v) (⟨f.id,f.x,f.y,f.cls,s,f.weight,f.fb⟩:Place) (by first| (simp;done) | fail)) ?_| refine ag.mk _ (aD) ?_| refine ag.mk _ (en) ?_| refine ag.mk _ (ek) ?_| refine ag.mk _ (ec) ?_| refine ag.mk _ (hs) ?_| refine st ?_| (first| refine b1 ?_ ?_| refine b2 ?_ ?_| refine Br.mk ?_ ?_) <;>intro hc| exact rfl) <;>conv=>whnf)
     refine⟨⟨es,fs,[],_⟩,false,true,?_,rfl⟩
     exact cS h (.inl (by simp))
 · by_cases h0:ps.length=0
   · (conv=>whnf);repeat' ((first| intro g| refine ag.mk _ (aD) ?_| refine ag.mk _ (en) ?_| refine ag.mk _ (ek) ?_| refine ag.mk _ (ec) ?_| refine st ?_| (first| refine b1 ?_ ?_| refine b2 ?_ ?_| refine Br.mk ?_ ?_) <;>intro hc| exact rfl) <;>conv=>whnf)
     refine⟨⟨es,fs,[],ps⟩,false,true,?_,rfl⟩
     exact aV h (by omega)
   · obtain⟨jj,dg,bM⟩:=bG kk (ps.map Place.v).length (by simp;omega)
     have Ej: ((kk:Int).tmod ((ps.map Place.v).length:Int)).toNat=jj:=by rw[dg];rfl
     have hw:IntKind.i64.wrap ((kk:Int).tmod ((ps.map Place.v).length:Int)+1)=((jj+1:Nat):Int):=by rw[dg];exact(wrap64 (by rw[List.length_map] at bM;omega) (by rw[List.length_map] at bM;omega)).trans (by omega)
     have MI: (IntKind.i64.wrap ((kk:Int).tmod ((ps.map Place.v).length:Int)+1)).toNat=jj+1:=by rw[hw];rfl
     have MJ: (ps.map Place.v).length=ps.length:=List.length_map ..
     have MK: ((ps.drop (jj+1)).map Place.v).length=ps.length - (jj+1):=by simp
     (conv=>whnf);repeat' ((first| intro g| refine dC.mk (⟨mT (by first| omega| fail) (by first| omega| fail),AM.cr (fun _=>rfl) _⟩) ?_| refine aL.mk _ (j5 (f:=Place.v) (j:=jj) (by first| omega| fail) (by first| omega| fail)) ?_| refine aL.mk _ (mU (f:=Place.v) (j:=jj) (by first| omega| fail) (by first| omega| fail) (by first| omega| fail)) ?_| refine ag.mk _ (aD) ?_| refine ag.mk _ (en) ?_| refine ag.mk _ (ek) ?_| refine ag.mk _ (ec) ?_| refine st ?_| (first| refine b1 ?_ ?_| refine b2 ?_ ?_| refine Br.mk ?_ ?_) <;>intro hc| exact rfl) <;>conv=>whnf)
     refine⟨⟨es,fs,[],_⟩,false,true,?_,rfl⟩
     exact cS h (.inl (by simp;omega))
end Go.AM
set_option maxRecDepth 20000
namespace Go.AM
set_option maxHeartbeats 8000000 in
theorem AS {es:List Edge} {fs:List aK} {ps:List Place} (h:br.Small ⟨es,fs,[],ps⟩) (q0 q1 q2:Int) (aD:Ev E 92 [br.v ⟨es,fs,[],ps⟩] ⟨.agg [.own 4 (es.map Edge.v),.own 5 (fs.map aK.v),.nils,.own 7 (ps.map Place.v)],[]⟩)
   (cc:Nat) (ec:Ev E 93 [vi q0,vi ((17:Nat):Int)] ⟨aT cc,[]⟩) (c7:cc=14∨cc=15∨cc=16):
   ∃res,Ev E 79 [br.v ⟨es,fs,[],ps⟩,kp q0 q1 q2] res∧ ∃ (m':br) (a b:Bool),jx ⟨es,fs,[],ps⟩ m'∧res=⟨m'.vw a b,[]⟩:=by
 obtain⟨nn,sy,en⟩:=bd q1 60 (by decide) (by decide)
 obtain⟨kk,sA,ek⟩:=bd q2 64 (by decide) (by decide)
 have hF:=h.bp;have hP:=h.aW;have hE:=h.bZ;have hW:=h.ways
 dsimp only at hF hP hE hW
 refine Ev.cQ nk (np _) rfl ?_
 rcases c7 with rfl| rfl| rfl
 · obtain⟨s,hs⟩:=dc kk
   obtain⟨k4,kJ,Ek⟩:=bG nn 4 (by decide)
   have kJ: (nn:Int).tmod 4=k4:=kJ
   obtain⟨y,hy⟩: ∃y:Int,[V.int .i64 0,V.int .i64 1073741824,V.int .i64 1073741825,V.int .i64 70][((nn:Int).tmod 4).toNat]? =some (vi y):=by
     rw[kJ]
     rcases(by omega:k4=0∨k4=1∨k4=2∨k4=3) with rfl| rfl| rfl| rfl<;>exact⟨_,rfl⟩
   have sB:aH (ps.map Place.v++[Place.v (⟨IntKind.i64.wrap (y+IntKind.i64.wrap ((nn:Int).tdiv 4)),IntKind.i64.wrap (50+IntKind.i64.wrap (5*(nn:Int))),IntKind.i64.wrap (50+IntKind.i64.wrap (2*(kk:Int))),[115,104,111,112],s,5,IntKind.i64.wrap (1+(nn:Int).tmod 2)⟩:Place)]) 0 ((ps.map Place.v).length+1)=(ps++[(⟨IntKind.i64.wrap (y+IntKind.i64.wrap ((nn:Int).tdiv 4)),IntKind.i64.wrap (50+IntKind.i64.wrap (5*(nn:Int))),IntKind.i64.wrap (50+IntKind.i64.wrap (2*(kk:Int))),[115,104,111,112],s,5,IntKind.i64.wrap (1+(nn:Int).tmod 2)⟩:Place)]).map Place.v:=by
     rw[show ps.map Place.v++[Place.v (⟨IntKind.i64.wrap (y+IntKind.i64.wrap ((nn:Int).tdiv 4)),IntKind.i64.wrap (50+IntKind.i64.wrap (5*(nn:Int))),IntKind.i64.wrap (50+IntKind.i64.wrap (2*(kk:Int))),[115,104,111,112],s,5,IntKind.i64.wrap (1+(nn:Int).tmod 2)⟩:Place)]=(ps++[(⟨IntKind.i64.wrap (y+IntKind.i64.wrap ((nn:Int).tdiv 4)),IntKind.i64.wrap (50+IntKind.i64.wrap (5*(nn:Int))),IntKind.i64.wrap (50+IntKind.i64.wrap (2*(kk:Int))),[115,104,111,112],s,5,IntKind.i64.wrap (1+(nn:Int).tmod 2)⟩:Place)]).map Place.v from by simp]
     exact bl (by simp)
   (conv=>whnf);repeat' ((first| intro g| refine aL.mk _ (hy) ?_| refine aL.mk _ (sB) ?_| refine ag.mk _ (aD) ?_| refine ag.mk _ (en) ?_| refine ag.mk _ (ek) ?_| refine ag.mk _ (ec) ?_| refine ag.mk _ (hs) ?_| refine st ?_| (first| refine b1 ?_ ?_| refine b2 ?_ ?_| refine Br.mk ?_ ?_) <;>intro hc| exact rfl) <;>conv=>whnf)
   refine⟨⟨es,fs,[],_⟩,false,true,?_,rfl⟩
   exact cS h (.inl (by simp))
 · by_cases h0:ps.length=0
   · (conv=>whnf);repeat' ((first| intro g| refine ag.mk _ (aD) ?_| refine ag.mk _ (en) ?_| refine ag.mk _ (ek) ?_| refine ag.mk _ (ec) ?_| refine st ?_| (first| refine b1 ?_ ?_| refine b2 ?_ ?_| refine Br.mk ?_ ?_) <;>intro hc| exact rfl) <;>conv=>whnf)
     refine⟨⟨es,fs,[],ps⟩,false,true,?_,rfl⟩
     exact aV h (by omega)
   · obtain⟨jj,dg,bM⟩:=bG kk (ps.map Place.v).length (by simp;omega)
     have lH:=bM
     rw[List.length_map] at bM
     obtain⟨f,hx⟩: ∃f,ps[jj]? =some f:=⟨_,aJ bM⟩
     have dG: (ps.map Place.v)[((kk:Int).tmod ((ps.map Place.v).length:Int)).toNat]? =some f.v:=au hx dg
     (conv=>whnf);repeat' ((first| intro g| refine aL.mk _ (dG) ?_| refine aL.mk _ (bB (f:=Place.v) (⟨f.id,f.x,f.y,f.cls,f.name,IntKind.i64.wrap ((nn:Int)*5),f.fb⟩:Place) (by first| (simp;done) | fail)) ?_| refine ag.mk _ (aD) ?_| refine ag.mk _ (en) ?_| refine ag.mk _ (ek) ?_| refine ag.mk _ (ec) ?_| refine st ?_| (first| refine b1 ?_ ?_| refine b2 ?_ ?_| refine Br.mk ?_ ?_) <;>intro hc| exact rfl) <;>conv=>whnf)
     refine⟨⟨es,fs,[],_⟩,false,true,?_,rfl⟩
     exact cS h (.inl (by simp))
 · obtain⟨k4,kJ,Ek⟩:=bG nn 4 (by decide)
   have kJ: (nn:Int).tmod 4=k4:=kJ
   have Vh:IntKind.i64.wrap (79+(nn:Int).tmod 4)=((79+k4:Nat):Int):=by rw[kJ];exact(wrap64 (by omega) (by omega)).trans (by omega)
   (conv=>whnf);repeat' ((first| intro g| refine ag.mk _ (aD) ?_| refine ag.mk _ (en) ?_| refine ag.mk _ (ek) ?_| refine ag.mk _ (ec) ?_| refine st ?_| (first| refine b1 ?_ ?_| refine b2 ?_ ?_| refine Br.mk ?_ ?_) <;>intro hc| exact rfl) <;>conv=>whnf)
   rename_i Cq gE gF gP
   obtain⟨jw,sC⟩: ∃x,x=g:=⟨_,rfl⟩
   rw[←sC];clear sC
   refine ba.by (fun ((i,gp):Nat×Nat)=> ⟨[(4,.ptr 80 Cq 0 0),(5,.ptr 96 jw 0 0),(6,aT nn),(9,aT i)],[(80,⟨Cq,4,false,false,some [.agg [.lit 4 [],.lit 5 [],.lit 8 [],.lit 7 []]]⟩),(96,⟨jw,4,false,false,some [.agg [.sl 192 gE 0 (es.map Edge.v).length,.sl 193 gF 0 (fs.map aK.v).length,.nils,.sl 195 gp 0 (ps.length+i)]]⟩),(192,⟨gE,4,true,false,some (es.map Edge.v)⟩),(193,⟨gF,5,true,false,some (fs.map aK.v)⟩),(195,⟨gp,7,true,false,some ((ps++(List.range i).map jd).map Place.v)⟩)]⟩)
     (fun (i,_)=>i≤79+k4) (fun (i,_)=>79+k4 - i) (0,gP) (by(refine⟨?_,?_⟩ <;>repeat' (first| exact True.intro| refine ai ?_| refine And.intro ?_ ?_))) (by simp) ?_
   rintro⟨i,gp⟩ hi
   try dsimp only at hi
   have hlen: ((ps++(List.range i).map jd).map Place.v).length=ps.length+i:=by simp
   by_cases bA:i< 79+k4
   · (conv=>whnf);repeat' ((first| (refine Or.inl (dC.mk ⟨rfl,hlen,by simp;omega⟩ ?_)) | intro g| refine st ?_| (first| refine b1 ?_ ?_| refine b2 ?_ ?_| refine Br.mk ?_ ?_) <;>intro hc| exact rfl) <;>conv=>whnf)
     exact bI.mk (i+1,g) (by first| omega| (dsimp only;omega)) (by first| omega| (dsimp only;omega)) (by(refine⟨?_,?_⟩ <;>repeat' (first| exact True.intro| refine And.intro (congrArg (fun L=> (⟨g,7,true,false,some L⟩:Obj)) (kK ps i)) ?_| refine ai ?_| refine And.intro ?_ ?_)))
   · obtain rfl:i=79+k4:=by omega
     (conv=>whnf);repeat' ((first| intro g| refine aL.mk _ (bl (by first| (simp;done) | fail)) ?_| refine st ?_| (first| refine b1 ?_ ?_| refine b2 ?_ ?_| refine Br.mk ?_ ?_) <;>intro hc| exact rfl) <;>conv=>whnf)
     refine⟨⟨es,fs,[],_⟩,false,true,?_,rfl⟩
     exact cS h (.inr ⟨79+k4,jd,by omega,fun i hi=> (wrap64 (by omega) (by omega)),rfl⟩)
end Go.AM
