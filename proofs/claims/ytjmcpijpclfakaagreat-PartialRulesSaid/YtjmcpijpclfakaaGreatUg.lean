/-
  Texts of the proof: PRuH.
-/
import Derived.Test.YtjmcpijpclfakaaGreatUf
set_option maxRecDepth 20000
set_option maxHeartbeats 4000000
set_option linter.unusedSimpArgs false
set_option linter.unusedVariables false
namespace Go.AM
def qu (R:List aP) (q0 q1 q2:Int):Prop:= ∃O:List aP,O.length≤60∧(∀r ∈ O,r.Fit)∧Ev E 325 [.lit 30 (R.map aP.v),.agg [vi q0,vi q1,vi q2]] ⟨.own 30 (O.map aP.v),[]⟩
theorem oC {R:List aP} {j:Nat} {y:aP} (hf: ∀r ∈ R,r.Fit) (hy:y.Fit): ∀r ∈ R.set j y,r.Fit:=fun r hr=>by
 rcases List.mem_or_eq_of_mem_set hr with h| rfl
 · exact hf r h
 · exact hy
theorem Qg {R:List aP} {y:aP} (hf: ∀r ∈ R,r.Fit) (hy:y.Fit): ∀r ∈ R++[y],r.Fit:=fun r hr=>by
 rcases List.mem_append.1 hr with h| h
 · exact hf r h
 · rw[List.mem_singleton.1 h];exact hy
theorem qY (n:Int): (Ex.mk 1 0 ⟨1,n,false,[]⟩ false []).size< 1000000∧(Ex.mk 1 0 ⟨1,n,false,[]⟩ false []).Fit:=⟨by simp[Ex.size,Ex.bK],.mk _ _ _ _ _ (by simp) (by simp)⟩
theorem Qh (n:Int): (Ex.mk 2 n aM false []).size< 1000000∧(Ex.mk 2 n aM false []).Fit:=⟨by simp[Ex.size,Ex.bK],.mk _ _ _ _ _ (by simp[aM]) (by simp)⟩
theorem Nb (s:dE) (h:s.length< 100): (Ex.mk 1 0 ⟨3,0,false,s⟩ false []).size< 1000000∧(Ex.mk 1 0 ⟨3,0,false,s⟩ false []).Fit:=⟨by simp[Ex.size,Ex.bK],.mk _ _ _ _ _ (by dsimp only;omega) (by simp)⟩
theorem Qi (op a b:Int): (Ex.mk op 0 aM false [.mk 1 0 ⟨1,a,false,[]⟩ false [],.mk 1 0 ⟨1,b,false,[]⟩ false []]).size< 1000000∧(Ex.mk op 0 aM false [.mk 1 0 ⟨1,a,false,[]⟩ false [],.mk 1 0 ⟨1,b,false,[]⟩ false []]).Fit:=
 ⟨by simp[Ex.size,Ex.bK],.mk _ _ _ _ _ (by simp[aM]) (fun u hu=>by simp at hu;rcases hu with rfl| rfl;exact(qY _).2;exact(qY _).2)⟩
theorem iU {vs:List V} {q0 q1 q2:Int} (h:cR q0 9≠8):Fx [.lit 30 vs,.agg [vi q0,vi q1,vi q2]]=none:=if_neg fun k=>h k.1
def xX:List dE:=[[],[97,108,108],[114,49],[32,120],[97,34,98],[122],[110,105,103,104,116],[120,47,121],[113],[119],[101],[116]]
def C6:List Int:=[-1,0,1,2,3,1000,1001,4,5,6,7,8]
theorem aiT (R:List aP) (y:aP) (j:Int):0+(0+(R.map aP.v).length)≤(([]++R.map aP.v).set j.toNat y.v).length∧V.ae ((R.set j.toNat y).map aP.v)=true:=⟨by simp,aP.bq _⟩
theorem aiU (R:List aP) (y:aP) (j:Int):bb (([]++R.map aP.v).set j.toNat y.v) 0 (0+(R.map aP.v).length)=(R.set j.toNat y).map aP.v:=by
 rw[List.nil_append,←List.map_set];exact kK (by simp)
def aiW (R:List aP) (q0 q1 q2:Int) (k n j:Int) (x:aP):Prop:=Ev E 93 [vi q0,vi 9] ⟨vi k,[]⟩∧Ev E 93 [vi q1,vi 12] ⟨vi n,[]⟩∧Ev E 93 [vi q2,vi ((0+(R.map aP.v).length:Nat):Int)] ⟨vi j,[]⟩∧
 (0≤n∧n< 12)∧(0≤j∧j< ((0+(R.map aP.v).length:Nat):Int))∧x.Fit∧([]++R.map aP.v)[j.toNat]? =some x.v
theorem aiV {R:List aP} (hp:0 <R.length) (h4:R.length≤4) (hf: ∀r ∈ R,r.Fit) (q0 q1 q2:Int): ∃n j x,aiW R q0 q1 q2 (cR q0 9) n j x:=by
 have Na: (R.map aP.v).length=R.length:=List.length_map ..
 have b1:=dG (a:=q1) (n:=12) (by decide) (by decide)
 have e2: ((0+(R.map aP.v).length:Nat):Int)=((R.length:Nat):Int):=by omega
 have m2:=eh (a:=q2) (n:=((0+(R.map aP.v).length:Nat):Int)) (by omega)
 have b2:=dG (a:=q2) (n:=R.length) hp (by omega)
 rw[show cR q2 ((0+(R.map aP.v).length:Nat):Int)=cR q2 ((R.length:Nat):Int) by rw[e2]] at m2
 have hx:R[(cR q2 R.length).toNat]? =some R[(cR q2 R.length).toNat]:=bp (by omega)
 refine⟨cR q1 12,_,R[(cR q2 R.length).toNat],eh (by decide),eh (by decide),m2,b1,⟨b2.1,by omega⟩,hf _ (List.getElem_mem (by omega)),?_⟩
 rw[List.nil_append,List.getElem?_map,hx];rfl
theorem aiS {R:List aP} {q0 q1 q2:Int} (hk:cR q0 9≠8) (h:qK E Cb (yB [.lit 30 (R.map aP.v),.agg [vi q0,vi q1,vi q2]]) (IL FK.results [.lit 30 (R.map aP.v),.agg [vi q0,vi q1,vi q2]] fun res=> ∃O:List aP,O.length≤60∧(∀r ∈ O,r.Fit)∧res=⟨.own 30 (O.map aP.v),[]⟩)):qu R q0 q1 q2:=by
 obtain⟨r,h1,O,h2,h3,rfl⟩:=Ev.jC (R:=fun res=> ∃O:List aP,O.length≤60∧(∀r ∈ O,r.Fit)∧res=⟨.own 30 (O.map aP.v),[]⟩) wC (wD (iU (vs:=R.map aP.v) (q1:=q1) (q2:=q2) hk)) rfl h
 exact⟨O,h2,h3,h1⟩
theorem Yf {R:List aP} (hp:0 <R.length) (h4:R.length≤4) (hf: ∀r ∈ R,r.Fit) (q0 q1 q2:Int) (hk:cR q0 9=0):qu R q0 q1 q2:=by
 obtain⟨n,j,x,m0,m1,m2,b1,⟨Yg,Db⟩,nC,qQ⟩:=aiV hp h4 hf q0 q1 q2
 rw[hk] at m0
 refine aiS (by rw[hk];decide) ?_
 rw[x.bN] at qQ
 have Na: (R.map aP.v).length=R.length:=List.length_map ..
 obtain⟨s,hs,Xq⟩: ∃s,xX[n.toNat]? =some s∧s.length< 1000000:=by
  have en: ∀s ∈ xX,s.length< 1000000:=by decide
  have bY:n.toNat<xX.length:=by have:xX.length=12:=rfl;omega
  exact⟨_,bp bY,en _ (List.getElem_mem bY)⟩
 obtain⟨y,hy,J6⟩: ∃y:aP,y.v= .agg [.str s,vi x.prio,vi x.w.po,vi x.w.pv,vi x.w.pt,vi x.w.pn,.bool x.w.pb,.str x.w.ps,x.w.pl,vi x.c.po,vi x.c.pv,vi x.c.pt,vi x.c.pn,.bool x.c.pb,.str x.c.ps,x.c.pl,vi x.d.po,vi x.d.pv,vi x.d.pt,vi x.d.pn,.bool x.d.pb,.str x.d.ps,x.d.pl,vi x.s.po,vi x.s.pv,vi x.s.pt,vi x.s.pn,.bool x.s.pb,.str x.s.ps,x.s.pl]∧y.Fit:=⟨⟨s,x.prio,x.w,x.c,x.d,x.s⟩,rfl,⟨Xq,nC.w,nC.c,nC.d,nC.s⟩⟩
 have hyp:=y.pure
 have gT:=aiT R y j
 have ql:=aiU R y j
 rw[hy] at hyp gT ql
 (conv=>whnf);repeat' ((first| refine Or.inl (bU.mk (aP.bq _) ?_) | intro g| refine bU.mk (gT) ?_| refine bD.mk _ (qQ) ?_| refine bD.mk _ (ql) ?_| refine bD.mk _ (eL hs (Int.toNat_of_nonneg b1.1).symm) ?_| refine av.mk _ (m1) ?_| refine av.mk _ (m2) ?_| refine av.mk _ (m0) ?_| refine st ?_| (first| refine b1 ?_ ?_| refine b2 ?_ ?_| refine Br.mk ?_ ?_) <;>intro hc| exact rfl) <;>conv=>whnf)
 exact⟨R.set j.toNat y,by simp;omega,oC hf J6,rfl⟩
theorem Yh {R:List aP} (hp:0 <R.length) (h4:R.length≤4) (hf: ∀r ∈ R,r.Fit) (q0 q1 q2:Int) (hk:cR q0 9=1):qu R q0 q1 q2:=by
 obtain⟨n,j,x,m0,m1,m2,b1,⟨Yg,Db⟩,nC,qQ⟩:=aiV hp h4 hf q0 q1 q2
 rw[hk] at m0
 refine aiS (by rw[hk];decide) ?_
 rw[x.bN] at qQ
 have Na: (R.map aP.v).length=R.length:=List.length_map ..
 obtain⟨p,hs⟩: ∃p,C6[n.toNat]? =some p:=by
  have bY:n.toNat<C6.length:=by have:C6.length=12:=rfl;omega
  exact⟨_,bp bY⟩
 obtain⟨y,hy,J6⟩: ∃y:aP,y.v= .agg [.str x.name,vi p,vi x.w.po,vi x.w.pv,vi x.w.pt,vi x.w.pn,.bool x.w.pb,.str x.w.ps,x.w.pl,vi x.c.po,vi x.c.pv,vi x.c.pt,vi x.c.pn,.bool x.c.pb,.str x.c.ps,x.c.pl,vi x.d.po,vi x.d.pv,vi x.d.pt,vi x.d.pn,.bool x.d.pb,.str x.d.ps,x.d.pl,vi x.s.po,vi x.s.pv,vi x.s.pt,vi x.s.pn,.bool x.s.pb,.str x.s.ps,x.s.pl]∧y.Fit:=⟨⟨x.name,p,x.w,x.c,x.d,x.s⟩,rfl,⟨nC.name,nC.w,nC.c,nC.d,nC.s⟩⟩
 have hyp:=y.pure
 have gT:=aiT R y j
 have ql:=aiU R y j
 rw[hy] at hyp gT ql
 (conv=>whnf);repeat' ((first| refine Or.inl (bU.mk (aP.bq _) ?_) | intro g| refine bU.mk (gT) ?_| refine bD.mk _ (qQ) ?_| refine bD.mk _ (ql) ?_| refine bD.mk _ (eL hs (Int.toNat_of_nonneg b1.1).symm) ?_| refine av.mk _ (m1) ?_| refine av.mk _ (m2) ?_| refine av.mk _ (m0) ?_| refine st ?_| (first| refine b1 ?_ ?_| refine b2 ?_ ?_| refine Br.mk ?_ ?_) <;>intro hc| exact rfl) <;>conv=>whnf)
 exact⟨R.set j.toNat y,by simp;omega,oC hf J6,rfl⟩
theorem Yi {R:List aP} (hp:0 <R.length) (h4:R.length≤4) (hf: ∀r ∈ R,r.Fit) (q0 q1 q2:Int) (hk:cR q0 9=2):qu R q0 q1 q2:=by
 obtain⟨n,j,x,m0,m1,m2,b1,⟨Yg,Db⟩,nC,qQ⟩:=aiV hp h4 hf q0 q1 q2
 rw[hk] at m0
 refine aiS (by rw[hk];decide) ?_
 rw[x.bN] at qQ
 have Na: (R.map aP.v).length=R.length:=List.length_map ..
 obtain⟨y,hy,J6⟩: ∃y:aP,y.v= .agg [.str x.name,vi x.prio,vi 1,vi 0,vi 1,vi n,.bool false,.str [],.lit 7 [],vi x.c.po,vi x.c.pv,vi x.c.pt,vi x.c.pn,.bool x.c.pb,.str x.c.ps,x.c.pl,vi x.d.po,vi x.d.pv,vi x.d.pt,vi x.d.pn,.bool x.d.pb,.str x.d.ps,x.d.pl,vi x.s.po,vi x.s.pv,vi x.s.pt,vi x.s.pn,.bool x.s.pb,.str x.s.ps,x.s.pl]∧y.Fit:=⟨⟨x.name,x.prio,.mk 1 0 ⟨1,n,false,[]⟩ false [],x.c,x.d,x.s⟩,rfl,⟨nC.name,qY _,nC.c,nC.d,nC.s⟩⟩
 have hyp:=y.pure
 have gT:=aiT R y j
 have ql:=aiU R y j
 rw[hy] at hyp gT ql
 (conv=>whnf);repeat' ((first| refine Or.inl (bU.mk (aP.bq _) ?_) | intro g| refine bU.mk (gT) ?_| refine bD.mk _ (qQ) ?_| refine bD.mk _ (ql) ?_| refine av.mk _ (m1) ?_| refine av.mk _ (m2) ?_| refine av.mk _ (m0) ?_| refine av.mk _ (kD _) ?_| refine st ?_| (first| refine b1 ?_ ?_| refine b2 ?_ ?_| refine Br.mk ?_ ?_) <;>intro hc| exact rfl) <;>conv=>whnf)
 exact⟨R.set j.toNat y,by simp;omega,oC hf J6,rfl⟩
theorem Yj {R:List aP} (hp:0 <R.length) (h4:R.length≤4) (hf: ∀r ∈ R,r.Fit) (q0 q1 q2:Int) (hk:cR q0 9=3):qu R q0 q1 q2:=by
 obtain⟨n,j,x,m0,m1,m2,b1,⟨Yg,Db⟩,nC,qQ⟩:=aiV hp h4 hf q0 q1 q2
 rw[hk] at m0
 refine aiS (by rw[hk];decide) ?_
 rw[x.bN] at qQ
 have Na: (R.map aP.v).length=R.length:=List.length_map ..
 obtain⟨y,hy,J6⟩: ∃y:aP,y.v= .agg [.str x.name,vi x.prio,vi x.w.po,vi x.w.pv,vi x.w.pt,vi x.w.pn,.bool x.w.pb,.str x.w.ps,x.w.pl,vi 1,vi 0,vi 3,vi 0,.bool false,.str [120],.lit 7 [],vi x.d.po,vi x.d.pv,vi x.d.pt,vi x.d.pn,.bool x.d.pb,.str x.d.ps,x.d.pl,vi x.s.po,vi x.s.pv,vi x.s.pt,vi x.s.pn,.bool x.s.pb,.str x.s.ps,x.s.pl]∧y.Fit:=⟨⟨x.name,x.prio,x.w,.mk 1 0 ⟨3,0,false,[120]⟩ false [],x.d,x.s⟩,rfl,⟨nC.name,nC.w,Nb _ (by decide),nC.d,nC.s⟩⟩
 have hyp:=y.pure
 have gT:=aiT R y j
 have ql:=aiU R y j
 rw[hy] at hyp gT ql
 (conv=>whnf);repeat' ((first| refine Or.inl (bU.mk (aP.bq _) ?_) | intro g| refine bU.mk (gT) ?_| refine bD.mk _ (qQ) ?_| refine bD.mk _ (ql) ?_| refine av.mk _ (m1) ?_| refine av.mk _ (m2) ?_| refine av.mk _ (m0) ?_| refine av.mk _ (Im _) ?_| refine st ?_| (first| refine b1 ?_ ?_| refine b2 ?_ ?_| refine Br.mk ?_ ?_) <;>intro hc| exact rfl) <;>conv=>whnf)
 exact⟨R.set j.toNat y,by simp;omega,oC hf J6,rfl⟩
theorem Yk {R:List aP} (hp:0 <R.length) (h4:R.length≤4) (hf: ∀r ∈ R,r.Fit) (q0 q1 q2:Int) (hk:cR q0 9=4):qu R q0 q1 q2:=by
 obtain⟨n,j,x,m0,m1,m2,b1,⟨Yg,Db⟩,nC,qQ⟩:=aiV hp h4 hf q0 q1 q2
 rw[hk] at m0
 refine aiS (by rw[hk];decide) ?_
 rw[x.bN] at qQ
 have Na: (R.map aP.v).length=R.length:=List.length_map ..
 obtain⟨y,hy,J6⟩: ∃y:aP,y.v= .agg [.str x.name,vi x.prio,vi x.w.po,vi x.w.pv,vi x.w.pt,vi x.w.pn,.bool x.w.pb,.str x.w.ps,x.w.pl,vi x.c.po,vi x.c.pv,vi x.c.pt,vi x.c.pn,.bool x.c.pb,.str x.c.ps,x.c.pl,vi (IntKind.i64.wrap (n+3)),vi 0,vi 0,vi 0,.bool false,.str [],.lit 7 [qt n,qt 2],vi x.s.po,vi x.s.pv,vi x.s.pt,vi x.s.pn,.bool x.s.pb,.str x.s.ps,x.s.pl]∧y.Fit:=⟨⟨x.name,x.prio,x.w,x.c,.mk (IntKind.i64.wrap (n+3)) 0 aM false [.mk 1 0 ⟨1,n,false,[]⟩ false [],.mk 1 0 ⟨1,2,false,[]⟩ false []],x.s⟩,rfl,⟨nC.name,nC.w,nC.c,Qi _ _ _,nC.s⟩⟩
 have hyp:=y.pure
 have gT:=aiT R y j
 have ql:=aiU R y j
 rw[hy] at hyp gT ql
 (conv=>whnf);repeat' ((first| refine Or.inl (bU.mk (aP.bq _) ?_) | intro g| refine bU.mk (gT) ?_| refine bD.mk _ (qQ) ?_| refine bD.mk _ (ql) ?_| refine av.mk _ (m1) ?_| refine av.mk _ (m2) ?_| refine av.mk _ (m0) ?_| refine av.mk _ (kD _) ?_| refine st ?_| (first| refine b1 ?_ ?_| refine b2 ?_ ?_| refine Br.mk ?_ ?_) <;>intro hc| exact rfl) <;>conv=>whnf)
 exact⟨R.set j.toNat y,by simp;omega,oC hf J6,rfl⟩
theorem Yl {R:List aP} (hp:0 <R.length) (h4:R.length≤4) (hf: ∀r ∈ R,r.Fit) (q0 q1 q2:Int) (hk:cR q0 9=5):qu R q0 q1 q2:=by
 obtain⟨n,j,x,m0,m1,m2,b1,⟨Yg,Db⟩,nC,qQ⟩:=aiV hp h4 hf q0 q1 q2
 rw[hk] at m0
 refine aiS (by rw[hk];decide) ?_
 rw[x.bN] at qQ
 have Na: (R.map aP.v).length=R.length:=List.length_map ..
 obtain⟨y,hy,J6⟩: ∃y:aP,y.v= .agg [.str x.name,vi x.prio,vi x.w.po,vi x.w.pv,vi x.w.pt,vi x.w.pn,.bool x.w.pb,.str x.w.ps,x.w.pl,vi x.c.po,vi x.c.pv,vi x.c.pt,vi x.c.pn,.bool x.c.pb,.str x.c.ps,x.c.pl,vi x.d.po,vi x.d.pv,vi x.d.pt,vi x.d.pn,.bool x.d.pb,.str x.d.ps,x.d.pl,vi 2,vi (IntKind.i64.wrap (n - 1)),vi 0,vi 0,.bool false,.str [],.lit 7 []]∧y.Fit:=⟨⟨x.name,x.prio,x.w,x.c,x.d,.mk 2 (IntKind.i64.wrap (n - 1)) aM false []⟩,rfl,⟨nC.name,nC.w,nC.c,nC.d,Qh _⟩⟩
 have hyp:=y.pure
 have gT:=aiT R y j
 have ql:=aiU R y j
 rw[hy] at hyp gT ql
 (conv=>whnf);repeat' ((first| refine Or.inl (bU.mk (aP.bq _) ?_) | intro g| refine bU.mk (gT) ?_| refine bD.mk _ (qQ) ?_| refine bD.mk _ (ql) ?_| refine av.mk _ (m1) ?_| refine av.mk _ (m2) ?_| refine av.mk _ (m0) ?_| refine av.mk _ (jW _) ?_| refine st ?_| (first| refine b1 ?_ ?_| refine b2 ?_ ?_| refine Br.mk ?_ ?_) <;>intro hc| exact rfl) <;>conv=>whnf)
 exact⟨R.set j.toNat y,by simp;omega,oC hf J6,rfl⟩
theorem Ym {R:List aP} (hp:0 <R.length) (h4:R.length≤4) (hf: ∀r ∈ R,r.Fit) (q0 q1 q2:Int) (hk:cR q0 9=7):qu R q0 q1 q2:=by
 obtain⟨n,j,x,m0,m1,m2,b1,⟨Yg,Db⟩,nC,qQ⟩:=aiV hp h4 hf q0 q1 q2
 rw[hk] at m0
 refine aiS (by rw[hk];decide) ?_
 rw[x.bN] at qQ
 have Na: (R.map aP.v).length=R.length:=List.length_map ..
 obtain⟨e,u,a,me,ie,ke⟩:=C5 (l:=[n,q2]) (by simp) 0
 replace ie:=wj ie
 have hd0:aW [n,q2] 0= .agg [.lit 1 [vi n,vi q2],.int .i64 0]:=rfl
 rw[hd0] at ke
 obtain⟨y,hy,J6⟩: ∃y:aP,y.v= .agg [.str x.name,vi x.prio,vi e.po,vi e.pv,vi e.pt,vi e.pn,.bool e.pb,.str e.ps,e.pl,vi x.c.po,vi x.c.pv,vi x.c.pt,vi x.c.pn,.bool x.c.pb,.str x.c.ps,x.c.pl,vi x.d.po,vi x.d.pv,vi x.d.pt,vi x.d.pn,.bool x.d.pb,.str x.d.ps,x.d.pl,vi x.s.po,vi x.s.pv,vi x.s.pt,vi x.s.pn,.bool x.s.pb,.str x.s.ps,x.s.pl]∧y.Fit:=⟨⟨x.name,x.prio,e,x.c,x.d,x.s⟩,rfl,⟨nC.name,me.fits (by decide),nC.c,nC.d,nC.s⟩⟩
 have hyp:=y.pure
 have gT:=aiT R y j
 have ql:=aiU R y j
 rw[hy] at hyp gT ql
 (conv=>whnf);repeat' ((first| refine Or.inl (bU.mk (aP.bq _) ?_) | refine nA ie ?_| refine fg (Ex.jN _) ?_| refine fg hyp ?_| intro g| refine bU.mk (gT) ?_| refine bD.mk _ (qQ) ?_| refine bD.mk _ (ql) ?_| refine av.mk _ (m1) ?_| refine av.mk _ (m2) ?_| refine av.mk _ (m0) ?_| refine av.mk _ (ke) ?_| refine st ?_| (first| refine b1 ?_ ?_| refine b2 ?_ ?_| refine Br.mk ?_ ?_) <;>intro hc| exact rfl) <;>conv=>whnf)
 exact⟨R.set j.toNat y,by simp;omega,oC hf J6,rfl⟩
theorem Yn {R:List aP} (hp:0 <R.length) (h4:R.length≤4) (hf: ∀r ∈ R,r.Fit) (q0 q1 q2:Int) (hk:cR q0 9=6):qu R q0 q1 q2:=by
 obtain⟨n,j,x,m0,m1,m2,b1,⟨Yg,Db⟩,nC,qQ⟩:=aiV hp h4 hf q0 q1 q2
 rw[hk] at m0
 refine aiS (by rw[hk];decide) ?_
 rw[x.bN] at qQ
 have Na: (R.map aP.v).length=R.length:=List.length_map ..
 have Km:=x.pure
 have jd: ([]++R.map aP.v)++[x.v]=(R++[x]).map aP.v:=by rw[List.nil_append,List.map_append];rfl
 have gT:0+(0+(R.map aP.v).length+1)≤(([]++R.map aP.v)++[x.v]).length∧V.ae ((R++[x]).map aP.v)=true:=by
  rw[jd];exact⟨by simp,aP.bq _⟩
 have ql:bb (([]++R.map aP.v)++[x.v]) 0 (0+(R.map aP.v).length+1)=(R++[x]).map aP.v:=by
  rw[jd];exact kK (by simp)
 rw[x.bN] at Km gT ql
 (conv=>whnf);repeat' ((first| refine Or.inl (bU.mk (aP.bq _) ?_) | refine fg Km ?_| intro g| refine bU.mk (gT) ?_| refine bD.mk _ (qQ) ?_| refine bD.mk _ (ql) ?_| refine av.mk _ (m1) ?_| refine av.mk _ (m2) ?_| refine av.mk _ (m0) ?_| refine st ?_| (first| refine b1 ?_ ?_| refine b2 ?_ ?_| refine Br.mk ?_ ?_) <;>intro hc| exact rfl) <;>conv=>whnf)
 exact⟨R++[x],by simp;omega,Qg hf nC,rfl⟩
theorem Ev.agu {args:List V} {res:iE} (h:Fx args=some res):Ev E 325 args res:=⟨0,by
 unfold call eH
 show kp E _ 325 args=_
 unfold kp
 rw[show E.ext 325 args=some res from h]⟩
def Nc:Ex:= .mk 1 0 ⟨1,1,false,[]⟩ false []
def afk (x:aP) (k:Nat):aP:=⟨Ky k,0,x.w,Nc,Nc,Nc⟩
theorem Qj (r:aP):QV r.v=true:=by
 unfold QV
 rw[r.pure]
 simp only[aP.v,List.all_cons,List.all_nil,Ex.Qa]
 rfl
theorem Yo {R:List aP} (hp:0 <R.length) (h4:R.length≤4) (hf: ∀r ∈ R,r.Fit) (q0 q1 q2:Int) (hk:cR q0 9=8):qu R q0 q1 q2:=by
 have Na: (R.map aP.v).length=R.length:=List.length_map ..
 have b2:=dG (a:=q2) (n:=R.length) hp (by omega)
 have b1:0≤cR q1 12∧cR q1 12 < 12:=dG (a:=q1) (n:=12) (by decide) (by decide)
 have hx:R[(cR q2 R.length).toNat]? =some R[(cR q2 R.length).toNat]:=bp (by omega)
 have nC:=hf R[(cR q2 R.length).toNat] (List.getElem_mem (by omega))
 generalize R[(cR q2 R.length).toNat]=x at hx nC
 refine⟨R++(List.range (30+(cR q1 12).toNat)).map (afk x),by simp;omega,fun r hr=> ?_,Ev.agu ?_⟩
 · rcases List.mem_append.1 hr with h| h
   · exact hf r h
   · obtain⟨k,_,rfl⟩:=List.mem_map.1 h
     exact⟨by simp[afk,Ky],nC.w,qY 1,qY 1,qY 1⟩
 · have qQ: (R.map aP.v)[(yn q2 (R.map aP.v).length).toNat]? =some x.v:=by
     rw[Na,List.getElem?_map]
     show (R[(cR q2 R.length).toNat]?).map aP.v=_
     rw[hx];rfl
   have en: (R.map aP.v).all QV=true:=by
     rw[List.all_map]
     exact List.all_eq_true.2 fun r _=>Qj r
   show (if yn q0 9=8∧0 < (R.map aP.v).length∧(R.map aP.v).length≤4∧(R.map aP.v).all QV=true then _ else none)=_
   rw[if_pos ⟨hk,by omega,by omega,en⟩,qQ]
   show some (⟨.own 30 (R.map aP.v++(List.range (30+(yn q1 12).toNat)).map (rD _)),[]⟩:iE)=_
   rw[List.map_append,List.map_map]
   rfl
theorem Qk {R:List aP} (hp:0 <R.length) (h4:R.length≤4) (hf: ∀r ∈ R,r.Fit) (q0 q1 q2:Int):qu R q0 q1 q2:=by
 have b:=dG (a:=q0) (n:=9) (by decide) (by decide)
 have h:cR q0 9=0∨cR q0 9=1∨cR q0 9=2∨cR q0 9=3∨cR q0 9=4∨cR q0 9=5∨cR q0 9=6∨cR q0 9=7∨cR q0 9=8:=by
  have h1:=b.1
  have h2:=b.2
  have e: ((9:Nat):Int)=9:=rfl
  rw[e] at h1 h2
  omega
 rcases h with h| h| h| h| h| h| h| h| h
 · exact Yf hp h4 hf q0 q1 q2 h
 · exact Yh hp h4 hf q0 q1 q2 h
 · exact Yi hp h4 hf q0 q1 q2 h
 · exact Yj hp h4 hf q0 q1 q2 h
 · exact Yk hp h4 hf q0 q1 q2 h
 · exact Yl hp h4 hf q0 q1 q2 h
 · exact Yn hp h4 hf q0 q1 q2 h
 · exact Ym hp h4 hf q0 q1 q2 h
 · exact Yo hp h4 hf q0 q1 q2 h
end Go.AM
