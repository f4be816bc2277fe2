/-
  Texts of the proof, joined by program: QaL. Own work.
-/
import Derived.Test.YtgkdgapmmkkcaaaGreatXb
import Derived.Test.YtgkdgapmmkkcaaaGreatXe
import Derived.Test.YtgkdgapmmkkcaaaGreatEd
import Derived.Test.YtgkdgapmmkkcaaaGreatSan
set_option linter.unusedSimpArgs false
set_option linter.unusedVariables false
set_option maxRecDepth 20000
namespace Go.AM
noncomputable def LL (m:br) (v:Vw):V:=if zm v then .own 4 ((if rN m=[] then ie v else vc (rN m) v).map Kn.v) else .lit 4 []
structure br.BO (m:br):Prop where
 f:m.bp.length< 10000
 w:m.ways.length< 10000
 p:m.aW.length< 10000
theorem T5 {m:br} (h:m.BO) (v:Vw):Ev E 447 [m.v,v.v] ⟨LL m v,[]⟩:=by
 unfold LL
 split
 · rename_i hv;exact LM v h.f h.w h.p hv
 · rename_i hv;exact W6 hv
theorem T6 {m:br} (h:m.BO) (v:Vw):Ev E 448 [m.v,v.v] ⟨LL m v,[]⟩:=by
 unfold LL
 split
 · rename_i hv
   have:=LN v h.f h.w h.p hv
   rw[BP] at this
   exact this
 · rename_i hv;exact W7 hv
def DO (ks:List Kn):Prop:=ks.length< 1000000∧ ∀k ∈ ks,k.texts.length< 1000000
theorem xN {m:br} (h:m.BO) (v:Vw):LL m v= .lit 4 []∨ ∃ks,LL m v= .own 4 (ks.map Kn.v)∧DO ks:=by
 unfold LL
 split
 · refine .inr ⟨_,rfl,?_⟩
   have hl: (rN m).length< 100000:=by have:=h.f;have:=h.w;have:=h.p;simp[rN];omega
   have hn: ∀f:En→eX,(Mt ((rN m).map f)).length< 1000000:=fun f=>by
    have:=wi (iV ((rN m).map f))
    rw[ng,List.length_map] at this
    show (nr _).length<_
    omega
   split
   · exact⟨by simp[ie],fun k hk=>by
      simp only[ie,List.mem_cons,List.not_mem_nil,or_false] at hk
      rcases hk with rfl| rfl| rfl<;>simp⟩
   · exact⟨by simp[vc,ie],fun k hk=>by
      simp only[vc,ie,List.mem_append,List.mem_cons,List.not_mem_nil,or_false] at hk
      rcases hk with(rfl| rfl| rfl| rfl| rfl| rfl) | rfl| rfl| rfl<;>first| exact hn _| simp⟩
 · exact .inl rfl
theorem tG:Ev E 446 [.lit 4 [],.lit 4 []] ⟨.bool true,[]⟩:=pN (ks:=[]) (by simp) (by simp)
set_option maxHeartbeats 4000000 in
theorem LO {Ms:List br} {M:br} {Gb v:Vw} {i jw zn Gc:Nat} {R1 R2:V} {Q:aY→SS→Prop} (hM:Ms[i]? =some M) (hi:i< 3) (hl:Ms.length=3)
   (p1:Ev E 447 [M.v,Gb.v] ⟨R1,[]⟩) (r1:Ev E 448 [M.v,Gb.v] ⟨R1,[]⟩) (p2:Ev E 447 [M.v,v.v] ⟨R2,[]⟩) (r2:Ev E 448 [M.v,v.v] ⟨R2,[]⟩)
   (F1:R1= .lit 4 []∨ ∃ks,R1= .own 4 (ks.map Kn.v)∧DO ks) (F2:R2= .lit 4 []∨ ∃ks,R2= .own 4 (ks.map Kn.v)∧DO ks)
   (hQ: ∀T' O',SS.Sub ⟨[(5,.ptr 96 jw 0 0),(7,.bool true),(9,.ptr 160 zn 0 0),(46,.sl 752 Gc 0 3),(47,aT 3),(48,aT (i+1))],
     [(96,⟨jw,7,false,false,some [v.v]⟩),(160,⟨zn,7,false,false,some [Gb.v]⟩),(752,⟨Gc,4,true,false,some (Ms.map br.v)⟩)]⟩ ⟨T',O'⟩→Q .normal ⟨T',O'⟩):
   oE E zD ⟨[(5,.ptr 96 jw 0 0),(7,.bool true),(9,.ptr 160 zn 0 0),(46,.sl 752 Gc 0 3),(47,aT 3),(48,aT i)],
     [(96,⟨jw,7,false,false,some [v.v]⟩),(160,⟨zn,7,false,false,some [Gb.v]⟩),(752,⟨Gc,4,true,false,some (Ms.map br.v)⟩)]⟩ Q:=by
 rcases F1 with rfl| ⟨k1,rfl,b1,t1⟩ <;>rcases F2 with rfl| ⟨k2,rfl,b2,t2⟩
 · (conv=>whnf);repeat' ((first| intro g| refine aL.mk _ (au hM rfl) ?_| refine ag.mk _ (p1) ?_| refine ag.mk _ (r1) ?_| refine ag.mk _ (p2) ?_| refine ag.mk _ (r2) ?_| refine ag.mk _ (tG) ?_| refine st ?_| (first| refine b1 ?_ ?_| refine b2 ?_ ?_| refine Br.mk ?_ ?_) <;>intro hc| exact rfl) <;>conv=>whnf)
   exact hQ _ _ (by(refine⟨?_,?_⟩ <;>repeat' (first| exact True.intro| refine ai ?_| refine And.intro ?_ ?_)))
 · have s2:=pN b2 t2
   (conv=>whnf);repeat' ((first| intro g| refine dC.mk (Kn.cr _) ?_| refine aL.mk _ (au hM rfl) ?_| refine ag.mk _ (p1) ?_| refine ag.mk _ (r1) ?_| refine ag.mk _ (p2) ?_| refine ag.mk _ (r2) ?_| refine ag.mk _ (tG) ?_| refine ag.mk _ (s2) ?_| refine st ?_| (first| refine b1 ?_ ?_| refine b2 ?_ ?_| refine Br.mk ?_ ?_) <;>intro hc| exact rfl) <;>conv=>whnf)
   exact hQ _ _ (by(refine⟨?_,?_⟩ <;>repeat' (first| exact True.intro| refine ai ?_| refine And.intro ?_ ?_)))
 · have s1:=pN b1 t1
   (conv=>whnf);repeat' ((first| intro g| refine dC.mk (Kn.cr _) ?_| refine aL.mk _ (au hM rfl) ?_| refine ag.mk _ (p1) ?_| refine ag.mk _ (r1) ?_| refine ag.mk _ (p2) ?_| refine ag.mk _ (r2) ?_| refine ag.mk _ (tG) ?_| refine ag.mk _ (s1) ?_| refine st ?_| (first| refine b1 ?_ ?_| refine b2 ?_ ?_| refine Br.mk ?_ ?_) <;>intro hc| exact rfl) <;>conv=>whnf)
   exact hQ _ _ (by(refine⟨?_,?_⟩ <;>repeat' (first| exact True.intro| refine ai ?_| refine And.intro ?_ ?_)))
 · have s1:=pN b1 t1
   have s2:=pN b2 t2
   (conv=>whnf);repeat' ((first| intro g| refine dC.mk (Kn.cr _) ?_| refine aL.mk _ (au hM rfl) ?_| refine ag.mk _ (p1) ?_| refine ag.mk _ (r1) ?_| refine ag.mk _ (p2) ?_| refine ag.mk _ (r2) ?_| refine ag.mk _ (s1) ?_| refine ag.mk _ (s2) ?_| refine st ?_| (first| refine b1 ?_ ?_| refine b2 ?_ ?_| refine Br.mk ?_ ?_) <;>intro hc| exact rfl) <;>conv=>whnf)
   exact hQ _ _ (by(refine⟨?_,?_⟩ <;>repeat' (first| exact True.intro| refine ai ?_| refine And.intro ?_ ?_)))
theorem W8 {α:Type} {f:α→V} {l:List α} {n:Nat} (h:n=min 8 l.length):aH (l.map f) 0 n=(l.take 8).map f:=by
 subst h
 unfold aH
 rw[List.drop_zero,←List.map_take,List.take_eq_take_min (i:=8)]
theorem W9 (n:Nat): (if (8:Int) < (n:Int) then(8:Int) else(n:Int)).toNat=min 8 n:=by
 split<;>omega
theorem zo {m:br} (hm:m.KL):m.Small∧m.BO:=by
 have h1:=hm.aW.1
 have h2:=hm.bZ.1;have h3:=hm.bp;have h4:=hm.ways.1
 have hl: ∀e ∈ m.bZ,2≤e.line.length∧e.line.length≤5:=hm.bZ.2
 have hw: ∀w ∈ m.ways,2≤w.line.length∧w.line.length≤5:=hm.ways.2
 exact⟨⟨by omega,by omega,by omega,by omega,fun e he=>by have:=hl e he;omega,fun e he=>by have:=hw e he;omega⟩,⟨by omega,by omega,by omega⟩⟩
theorem DP {m m':br} (hm:m.KL) (h:jx m m'):m'.BO:=by
 have h1:=hm.aW.1
 have h3:=hm.bp;have h4:=hm.ways.1
 have e2:=h.bp;have e3:=h.ways
 refine⟨by omega,by omega,?_⟩
 rcases h.aW with h| ⟨k,f,hk,_,h⟩
 · omega
 · rw[h];simp;omega
def T7 (v:Vw):Vw:=⟨v.ax.tmod 100,v.ay.tmod 100,v.ux.tmod 700,v.uy.tmod 700,8,8,IntKind.i64.wrap ↑(BitVec.ofInt IntKind.i64.bits v.hour &&&BitVec.ofInt IntKind.i64.bits 15).toNat⟩
set_option maxHeartbeats 4000000 in
theorem wh {ls:List (List Int)} (hs:sD ls) (q0 q1 q2:Int) (v:Vw):Ev E 445 [fR ls,kp q0 q1 q2,v.v] ⟨.bool true,[]⟩:=by
 have Ya:sD (ls.take 8):=⟨by have:=hs.1;simp;omega,fun l h=>hs.2 l (List.mem_of_mem_take h)⟩
 have T8:=BK
 refine Ev.cY Ol (Om _) rfl ?_
 (conv=>whnf);repeat' ((first| intro g| refine aL.mk _ (W8 (by rw[List.length_map];exact W9 _)) ?_| refine ag.mk _ (T8) ?_| refine st ?_| (first| refine b1 ?_ ?_| refine b2 ?_ ?_| refine Br.mk ?_ ?_) <;>intro hc| exact rfl) <;>conv=>whnf)
 refine ag.ex (A5 Ya) ?_
 rintro _ ⟨m,hm,rfl⟩
 obtain⟨QS,FK⟩:=zo hm
 (conv=>whnf);repeat' ((first| intro g| refine st ?_| (first| refine b1 ?_ ?_| refine b2 ?_ ?_| refine Br.mk ?_ ?_) <;>intro hc| exact rfl) <;>conv=>whnf)
 refine ag.ex (Cs QS q0 q1 q2) ?_
 rintro _ ⟨m',a,b,T9,rfl⟩
 have UW:=DP hm T9
 have Z2: ∀M ∈ [m,m',⟨[],[],[],[]⟩],M.BO:=fun M hM=>by
  simp only[List.mem_cons,List.not_mem_nil,or_false] at hM
  rcases hM with rfl| rfl| rfl
  · exact FK
  · exact UW
  · exact⟨by simp,by simp,by simp⟩
 clear T8 Ya hs hm QS T9 FK UW
 have hlen: [m,m',(⟨[],[],[],[]⟩:br)].length=3:=rfl
 cases a<;>cases b
 all_goals
  (conv=>whnf);repeat' ((first| intro g| refine st ?_| (first| refine b1 ?_ ?_| refine b2 ?_ ?_| refine Br.mk ?_ ?_) <;>intro hc| exact rfl) <;>conv=>whnf)
  rename_i jw _ zn
  refine ba.by (fun i:Nat=> ⟨[(5,.ptr 96 jw 0 0),(7,.bool true),(9,.ptr 160 zn 0 0),(46,.sl 752 g 0 3),(47,aT 3),(48,aT i)],
    [(96,⟨jw,7,false,false,some [v.v]⟩),(160,⟨zn,7,false,false,some [(T7 v).v]⟩),(752,⟨g,4,true,false,some ([m,m',(⟨[],[],[],[]⟩:br)].map br.v)⟩)]⟩) (fun i=>i≤3) (fun i=>3 - i) 0 (by(refine⟨?_,?_⟩ <;>repeat' (first| exact True.intro| refine ai ?_| refine And.intro ?_ ?_))) (by omega) ?_
  intro i hi
  by_cases bA:i< 3
  · obtain⟨M,hM⟩: ∃M,[m,m',(⟨[],[],[],[]⟩:br)][i]? =some M:=⟨_,aJ bA⟩
    have hL:=Z2 M (List.mem_of_getElem? hM)
    exact LO hM bA hlen (T5 hL _) (T6 hL _) (T5 hL _) (T6 hL _) (xN hL _) (xN hL _) fun T' O' hs=>bI.mk (i+1) (by first| omega| (dsimp only;omega)) (by first| omega| (dsimp only;omega)) hs
  obtain rfl:i=3:=by omega
  (conv=>whnf);repeat' ((first| intro g| refine st ?_| (first| refine b1 ?_ ?_| refine b2 ?_ ?_| refine Br.mk ?_ ?_) <;>intro hc| exact rfl) <;>conv=>whnf)
end Go.AM
