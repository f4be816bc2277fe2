/-
  Texts of the proof: PRuF.
-/
import Derived.Test.YtjmcpijpclfakaaGreatUa
import Derived.Test.YtjmcpijpclfakaaGreatRa
set_option maxRecDepth 20000
set_option maxHeartbeats 4000000
set_option linter.unusedSimpArgs false
set_option linter.unusedVariables false
namespace Go.AM
abbrev qt (n:Int):V:= .agg [vi 1,vi 0,vi 1,vi n,.bool false,.str [],.lit 7 []]
abbrev AA (n:Int):V:= .agg [vi 2,vi n,vi 0,vi 0,.bool false,.str [],.lit 7 []]
abbrev R9 (s:dE):V:= .agg [vi 1,vi 0,vi 3,vi 0,.bool false,.str s,.lit 7 []]
theorem kD (n:Int):Ev E 355 [vi n] ⟨qt n,[]⟩:=by
 refine Ev.aG aaO (aaP _) rfl ?_
 (conv=>whnf);repeat' ((first| intro g| refine st ?_| (first| refine b1 ?_ ?_| refine b2 ?_ ?_| refine Br.mk ?_ ?_) <;>intro hc| exact rfl) <;>conv=>whnf)
theorem jW (n:Int):Ev E 359 [vi n] ⟨AA n,[]⟩:=by
 refine Ev.aG aaS (aaT _) rfl ?_
 (conv=>whnf);repeat' ((first| intro g| refine st ?_| (first| refine b1 ?_ ?_| refine b2 ?_ ?_| refine Br.mk ?_ ?_) <;>intro hc| exact rfl) <;>conv=>whnf)
theorem Im (s:dE):Ev E 358 [.str s] ⟨R9 s,[]⟩:=by
 refine Ev.aG aaQ (aaR _) rfl ?_
 (conv=>whnf);repeat' ((first| intro g| refine st ?_| (first| refine b1 ?_ ?_| refine b2 ?_ ?_| refine Br.mk ?_ ?_) <;>intro hc| exact rfl) <;>conv=>whnf)
theorem ae5 {l:List Int} {a0 a1 a2 r1:Nat}
  (n1:Ev E 85 [.mptr 2 [aW l a0] 0 0,aO 9] ⟨aO 0,[(0,[aW l a1])]⟩) (n2:Ev E 85 [.mptr 2 [aW l a1] 0 0,aO 3] ⟨aO r1,[(0,[aW l a2])]⟩):
  Ev E 357 [.mptr 2 [aW l a0] 0 0] ⟨.agg [vi 6,vi 0,vi 0,vi 0,.bool false,.str [],.own 7 [AA 1,qt (IntKind.i64.wrap (1+((r1:Nat):Int)))]],[(0,[aW l a2])]⟩:=by
 refine Ev.aG tZ (ua _) rfl ?_
 (conv=>whnf);repeat' ((first| intro g| refine av.mk _ (n1) ?_| refine av.mk _ (n2) ?_| refine av.mk _ (jW _) ?_| refine av.mk _ (kD _) ?_| refine st ?_| (first| refine b1 ?_ ?_| refine b2 ?_ ?_| refine Br.mk ?_ ?_) <;>intro hc| exact rfl) <;>conv=>whnf)
theorem ae6 {l:List Int} {a0 a1 a2 r1:Nat} {s:dE} (hs: ([[112,97,114,107],[112,97,116,104],[116,114,101,101]]:List dE)[r1]? =some s) (h3: ((r1:Nat):Int) < 3)
  (n1:Ev E 85 [.mptr 2 [aW l a0] 0 0,aO 9] ⟨aO 1,[(0,[aW l a1])]⟩) (n2:Ev E 85 [.mptr 2 [aW l a1] 0 0,aO 3] ⟨aO r1,[(0,[aW l a2])]⟩):
  Ev E 357 [.mptr 2 [aW l a0] 0 0] ⟨.agg [vi 6,vi 0,vi 0,vi 0,.bool false,.str [],.own 7 [AA 2,R9 s]],[(0,[aW l a2])]⟩:=by
 refine Ev.aG tZ (ua _) rfl ?_
 (conv=>whnf);repeat' ((first| intro g| refine bD.mk _ (eL hs rfl) ?_| refine av.mk _ (n1) ?_| refine av.mk _ (n2) ?_| refine av.mk _ (jW _) ?_| refine av.mk _ (Im _) ?_| refine st ?_| (first| refine b1 ?_ ?_| refine b2 ?_ ?_| refine Br.mk ?_ ?_) <;>intro hc| exact rfl) <;>conv=>whnf)
theorem ae7 {l:List Int} {a0 a1 a2 r1:Nat}
  (n1:Ev E 85 [.mptr 2 [aW l a0] 0 0,aO 9] ⟨aO 2,[(0,[aW l a1])]⟩) (n2:Ev E 85 [.mptr 2 [aW l a1] 0 0,aO 20] ⟨aO r1,[(0,[aW l a2])]⟩):
  Ev E 357 [.mptr 2 [aW l a0] 0 0] ⟨.agg [vi 7,vi 0,vi 0,vi 0,.bool false,.str [],.own 7 [AA 4,qt r1]],[(0,[aW l a2])]⟩:=by
 refine Ev.aG tZ (ua _) rfl ?_
 (conv=>whnf);repeat' ((first| intro g| refine av.mk _ (n1) ?_| refine av.mk _ (n2) ?_| refine av.mk _ (jW _) ?_| refine av.mk _ (kD _) ?_| refine st ?_| (first| refine b1 ?_ ?_| refine b2 ?_ ?_| refine Br.mk ?_ ?_) <;>intro hc| exact rfl) <;>conv=>whnf)
theorem ae8 {l:List Int} {a0 a1 a2 r1:Nat} {x:Int} (hx: ([2,5,20,100]:List Int)[r1]? =some x) (h3: ((r1:Nat):Int) < 4)
  (n1:Ev E 85 [.mptr 2 [aW l a0] 0 0,aO 9] ⟨aO 3,[(0,[aW l a1])]⟩) (n2:Ev E 85 [.mptr 2 [aW l a1] 0 0,aO 4] ⟨aO r1,[(0,[aW l a2])]⟩):
  Ev E 357 [.mptr 2 [aW l a0] 0 0] ⟨.agg [vi 7,vi 0,vi 0,vi 0,.bool false,.str [],.own 7 [qt x,AA 7]],[(0,[aW l a2])]⟩:=by
 refine Ev.aG tZ (ua _) rfl ?_
 (conv=>whnf);repeat' ((first| intro g| refine bD.mk _ (eL hx rfl) ?_| refine av.mk _ (n1) ?_| refine av.mk _ (n2) ?_| refine av.mk _ (jW _) ?_| refine av.mk _ (kD _) ?_| refine st ?_| (first| refine b1 ?_ ?_| refine b2 ?_ ?_| refine Br.mk ?_ ?_) <;>intro hc| exact rfl) <;>conv=>whnf)
theorem ae9 {l:List Int} {a0 a1 a2 r1:Nat}
  (n1:Ev E 85 [.mptr 2 [aW l a0] 0 0,aO 9] ⟨aO 4,[(0,[aW l a1])]⟩) (n2:Ev E 85 [.mptr 2 [aW l a1] 0 0,aO 3] ⟨aO r1,[(0,[aW l a2])]⟩):
  Ev E 357 [.mptr 2 [aW l a0] 0 0] ⟨.agg [vi 6,vi 0,vi 0,vi 0,.bool false,.str [],.own 7 [AA 5,qt (IntKind.i64.wrap (((r1:Nat):Int) - 1))]],[(0,[aW l a2])]⟩:=by
 refine Ev.aG tZ (ua _) rfl ?_
 (conv=>whnf);repeat' ((first| intro g| refine av.mk _ (n1) ?_| refine av.mk _ (n2) ?_| refine av.mk _ (jW _) ?_| refine av.mk _ (kD _) ?_| refine st ?_| (first| refine b1 ?_ ?_| refine b2 ?_ ?_| refine Br.mk ?_ ?_) <;>intro hc| exact rfl) <;>conv=>whnf)
theorem afa {l:List Int} {a0 a1:Nat}
  (n1:Ev E 85 [.mptr 2 [aW l a0] 0 0,aO 9] ⟨aO 5,[(0,[aW l a1])]⟩):
  Ev E 357 [.mptr 2 [aW l a0] 0 0] ⟨AA 6,[(0,[aW l a1])]⟩:=by
 refine Ev.aG tZ (ua _) rfl ?_
 (conv=>whnf);repeat' ((first| intro g| refine av.mk _ (n1) ?_| refine av.mk _ (jW _) ?_| refine st ?_| (first| refine b1 ?_ ?_| refine b2 ?_ ?_| refine Br.mk ?_ ?_) <;>intro hc| exact rfl) <;>conv=>whnf)
theorem afb {l:List Int} {a0 a1 a2 r1:Nat}
  (n1:Ev E 85 [.mptr 2 [aW l a0] 0 0,aO 9] ⟨aO 6,[(0,[aW l a1])]⟩) (n2:Ev E 85 [.mptr 2 [aW l a1] 0 0,aO 24] ⟨aO r1,[(0,[aW l a2])]⟩):
  Ev E 357 [.mptr 2 [aW l a0] 0 0] ⟨.agg [vi 7,vi 0,vi 0,vi 0,.bool false,.str [],.own 7 [AA 8,qt r1]],[(0,[aW l a2])]⟩:=by
 refine Ev.aG tZ (ua _) rfl ?_
 (conv=>whnf);repeat' ((first| intro g| refine av.mk _ (n1) ?_| refine av.mk _ (n2) ?_| refine av.mk _ (jW _) ?_| refine av.mk _ (kD _) ?_| refine st ?_| (first| refine b1 ?_ ?_| refine b2 ?_ ?_| refine Br.mk ?_ ?_) <;>intro hc| exact rfl) <;>conv=>whnf)
theorem afc {l:List Int} {a0 a1 a2 r1:Nat}
  (n1:Ev E 85 [.mptr 2 [aW l a0] 0 0,aO 9] ⟨aO 7,[(0,[aW l a1])]⟩) (n2:Ev E 85 [.mptr 2 [aW l a1] 0 0,aO 3] ⟨aO r1,[(0,[aW l a2])]⟩):
  Ev E 357 [.mptr 2 [aW l a0] 0 0] ⟨.agg [vi 6,vi 0,vi 0,vi 0,.bool false,.str [],.own 7 [AA 9,qt (IntKind.i64.wrap (1+((r1:Nat):Int)))]],[(0,[aW l a2])]⟩:=by
 refine Ev.aG tZ (ua _) rfl ?_
 (conv=>whnf);repeat' ((first| intro g| refine av.mk _ (n1) ?_| refine av.mk _ (n2) ?_| refine av.mk _ (jW _) ?_| refine av.mk _ (kD _) ?_| refine st ?_| (first| refine b1 ?_ ?_| refine b2 ?_ ?_| refine Br.mk ?_ ?_) <;>intro hc| exact rfl) <;>conv=>whnf)
theorem afd {l:List Int} {a0 a1:Nat}
  (n1:Ev E 85 [.mptr 2 [aW l a0] 0 0,aO 9] ⟨aO 8,[(0,[aW l a1])]⟩):
  Ev E 357 [.mptr 2 [aW l a0] 0 0] ⟨.agg [vi 1,vi 0,vi 2,vi 0,.bool true,.str [],.lit 7 []],[(0,[aW l a1])]⟩:=by
 refine Ev.aG tZ (ua _) rfl ?_
 (conv=>whnf);repeat' ((first| intro g| refine av.mk _ (n1) ?_| refine av.mk _ (kD _) ?_| refine st ?_| (first| refine b1 ?_ ?_| refine b2 ?_ ?_| refine Br.mk ?_ ?_) <;>intro hc| exact rfl) <;>conv=>whnf)
def Mkr (l:List Int) (f:Nat) (more:List V) (t:Int) (n:Nat):Prop:= ∀a0:Nat,∃ (e:Ex) (r:V) (a:Nat),Mk t n e∧MR e.v r∧Ev E f (.mptr 2 [aW l a0] 0 0::more) ⟨r,[(0,[aW l a])]⟩
theorem BI {l:List Int} (hl:l.length< 9223372036854775808): ∀n a,0 <n→n< 1000→ ∃r a',r<n∧Ev E 85 [.mptr 2 [aW l a] 0 0,aO n] ⟨aO r,[(0,[aW l a'])]⟩:=fun n a h h2=> ⟨_,_,sZ h (by omega),GV hl n h (by omega)⟩
theorem mQ {n:Int} (h: -1000≤n∧n≤1000):Mk 1 1 (.mk 1 0 ⟨1,n,false,[]⟩ false []):=uR (v:=⟨1,n,false,[]⟩) (by simp[Va.right];omega) (by simp)
theorem zT (op var:Int) (v:Va):MR (Ex.mk op var v false []).v (.agg [vi op,vi var,vi v.t,vi v.n,.bool v.b,.str v.s,.lit 7 []]):=⟨op,var,v.t,v.n,v.b,v.s,[],MJ ..,.inl rfl⟩
theorem C5 {l:List Int} (hl:l.length< 9223372036854775808):Mkr l 357 [] 2 4:=by
 intro a0
 obtain⟨r0,a1,h0,n1⟩:=BI hl 9 a0 (by decide) (by decide)
 have w1: ∀r:Nat,r< 3→IntKind.i64.wrap (1+((r:Nat):Int))=1+r:=fun r h=>wrap64 (by omega) (by omega)
 have w2: ∀r:Nat,r< 3→IntKind.i64.wrap (((r:Nat):Int) - 1)=r - 1:=fun r h=>wrap64 (by omega) (by omega)
 have hr:r0=0∨r0=1∨r0=2∨r0=3∨r0=4∨r0=5∨r0=6∨r0=7∨r0=8:=by omega
 rcases hr with rfl| rfl| rfl| rfl| rfl| rfl| rfl| rfl| rfl
 · obtain⟨r,a,h,n2⟩:=BI hl 3 a1 (by decide) (by decide)
   exact⟨_,_,a,mO (op:=6) (oA (v:=1) (by decide)) (mQ (n:=IntKind.i64.wrap (1+r)) (by rw[w1 r h];omega)) (by decide) (by decide) (by decide) rfl,kC ..,ae5 n1 n2⟩
 · obtain⟨r,a,h,n2⟩:=BI hl 3 a1 (by decide) (by decide)
   obtain⟨s,hs,hsr,Xq⟩: ∃s,([[112,97,114,107],[112,97,116,104],[116,114,101,101]]:List dE)[r]? =some s∧(Va.mk 3 0 false s).right=true∧s.length< 100:=by
    have en: ∀x ∈ ([[112,97,114,107],[112,97,116,104],[116,114,101,101]]:List dE),(Va.mk 3 0 false x).right=true∧x.length< 100:=by decide
    exact⟨_,bp h,en _ (List.getElem_mem h)⟩
   exact⟨_,_,a,mO (op:=6) (t2:=3) (oA (v:=2) (by decide)) (uR (v:=⟨3,0,false,s⟩) hsr (by dsimp only;omega)) (by decide) (by decide) (by decide) rfl,kC ..,ae6 hs (by omega) n1 n2⟩
 · obtain⟨r,a,h,n2⟩:=BI hl 20 a1 (by decide) (by decide)
   exact⟨_,_,a,mO (op:=7) (oA (v:=4) (by decide)) (mQ (n:=r) (by omega)) (by decide) (by decide) (by decide) rfl,kC ..,ae7 n1 n2⟩
 · obtain⟨r,a,h,n2⟩:=BI hl 4 a1 (by decide) (by decide)
   obtain⟨x,hx,hxb⟩: ∃x,([2,5,20,100]:List Int)[r]? =some x∧ -1000≤x∧x≤1000:=by
    have en: ∀x ∈ ([2,5,20,100]:List Int),-1000≤x∧x≤1000:=by decide
    exact⟨_,bp h,en _ (List.getElem_mem h)⟩
   exact⟨_,_,a,mO (op:=7) (mQ hxb) (oA (v:=7) (by decide)) (by decide) (by decide) (by decide) rfl,kC ..,ae8 hx (by omega) n1 n2⟩
 · obtain⟨r,a,h,n2⟩:=BI hl 3 a1 (by decide) (by decide)
   exact⟨_,_,a,mO (op:=6) (oA (v:=5) (by decide)) (mQ (n:=IntKind.i64.wrap ((r:Int) - 1)) (by rw[w2 r h];omega)) (by decide) (by decide) (by decide) rfl,kC ..,ae9 n1 n2⟩
 · exact⟨_,_,a1,jk (oA (v:=6) (by decide)) (by decide),zT ..,afa n1⟩
 · obtain⟨r,a,h,n2⟩:=BI hl 24 a1 (by decide) (by decide)
   exact⟨_,_,a,mO (op:=7) (oA (v:=8) (by decide)) (mQ (n:=r) (by omega)) (by decide) (by decide) (by decide) rfl,kC ..,afb n1 n2⟩
 · obtain⟨r,a,h,n2⟩:=BI hl 3 a1 (by decide) (by decide)
   exact⟨_,_,a,mO (op:=6) (oA (v:=9) (by decide)) (mQ (n:=IntKind.i64.wrap (1+r)) (by rw[w1 r h];omega)) (by decide) (by decide) (by decide) rfl,kC ..,afc n1 n2⟩
 · exact⟨_,_,a1,jk (uR (v:=⟨2,0,true,[]⟩) (by simp[Va.right]) (by simp)) (by decide),zT ..,afd n1⟩
theorem X8 {l:List Int} {a0 a1 ax r1:Nat}
  (n1:Ev E 85 [.mptr 2 [aW l a0] 0 0,aO 6] ⟨aO r1,[(0,[aW l a1])]⟩) {vx rx:V} (mx:MR vx rx) (ex:Ev E 357 [.mptr 2 [aW l a1] 0 0] ⟨rx,[(0,[aW l ax])]⟩):
  Ev E 356 [.mptr 2 [aW l a0] 0 0,aO 0] ⟨vx,[(0,[aW l ax])]⟩:=by
 obtain⟨qx,Bx,cx,dx,ox,gx,yx,rfl,fx⟩:=mx
 rcases fx with rfl| rfl
 all_goals
  refine Ev.aG DH (DI _) rfl ?_
  (conv=>whnf);repeat' ((first| intro g| refine av.mk _ (n1) ?_| refine av.mk _ (ex) ?_| refine st ?_| (first| refine b1 ?_ ?_| refine b2 ?_ ?_| refine Br.mk ?_ ?_) <;>intro hc| exact rfl) <;>conv=>whnf)
theorem X9 {l:List Int} {a0 a1 ax r1 d:Nat} (h3: ((r1:Nat):Int) < 3) (sq: ¬ ((d+1:Nat):Int)≤0)
  (n1:Ev E 85 [.mptr 2 [aW l a0] 0 0,aO 6] ⟨aO r1,[(0,[aW l a1])]⟩) {vx rx:V} (mx:MR vx rx) (ex:Ev E 357 [.mptr 2 [aW l a1] 0 0] ⟨rx,[(0,[aW l ax])]⟩):
  Ev E 356 [.mptr 2 [aW l a0] 0 0,aO (d+1)] ⟨vx,[(0,[aW l ax])]⟩:=by
 obtain⟨qx,Bx,cx,dx,ox,gx,yx,rfl,fx⟩:=mx
 rcases fx with rfl| rfl
 all_goals
  refine Ev.aG DH (DI _) rfl ?_
  (conv=>whnf);repeat' ((first| intro g| refine av.mk _ (n1) ?_| refine av.mk _ (ex) ?_| refine st ?_| (first| refine b1 ?_ ?_| refine b2 ?_ ?_| refine Br.mk ?_ ?_) <;>intro hc| exact rfl) <;>conv=>whnf)
theorem Ya {l:List Int} {a0 a1 ax d:Nat} (sq: ¬ ((d+1:Nat):Int)≤0)
  (n1:Ev E 85 [.mptr 2 [aW l a0] 0 0,aO 6] ⟨aO 3,[(0,[aW l a1])]⟩) {vx rx:V} (mx:MR vx rx) (ex:Ev E 356 [.mptr 2 [aW l a1] 0 0,.int .i64 (IntKind.i64.wrap (((d+1:Nat):Int) - 1))] ⟨rx,[(0,[aW l ax])]⟩):
  Ev E 356 [.mptr 2 [aW l a0] 0 0,aO (d+1)] ⟨.agg [vi 3,vi 0,vi 0,vi 0,.bool false,.str [],.own 7 [vx]],[(0,[aW l ax])]⟩:=by
 obtain⟨qx,Bx,cx,dx,ox,gx,yx,rfl,fx⟩:=mx
 rcases fx with rfl| rfl
 all_goals
  refine Ev.aG DH (DI _) rfl ?_
  (conv=>whnf);repeat' ((first| intro g| refine av.mk _ (n1) ?_| refine av.mk _ (ex) ?_| refine st ?_| (first| refine b1 ?_ ?_| refine b2 ?_ ?_| refine Br.mk ?_ ?_) <;>intro hc| exact rfl) <;>conv=>whnf)
theorem Yb {l:List Int} {a0 a1 ax ay d:Nat} (sq: ¬ ((d+1:Nat):Int)≤0)
  (n1:Ev E 85 [.mptr 2 [aW l a0] 0 0,aO 6] ⟨aO 4,[(0,[aW l a1])]⟩) {vx rx:V} (mx:MR vx rx) (ex:Ev E 356 [.mptr 2 [aW l a1] 0 0,.int .i64 (IntKind.i64.wrap (((d+1:Nat):Int) - 1))] ⟨rx,[(0,[aW l ax])]⟩) {vy ry:V} (my:MR vy ry) (ey:Ev E 356 [.mptr 2 [aW l ax] 0 0,.int .i64 (IntKind.i64.wrap (((d+1:Nat):Int) - 1))] ⟨ry,[(0,[aW l ay])]⟩):
  Ev E 356 [.mptr 2 [aW l a0] 0 0,aO (d+1)] ⟨.agg [vi 4,vi 0,vi 0,vi 0,.bool false,.str [],.own 7 [vx,vy]],[(0,[aW l ay])]⟩:=by
 obtain⟨qx,Bx,cx,dx,ox,gx,yx,rfl,fx⟩:=mx
 obtain⟨qy,By,cy,dy,oy,gy,yy,rfl,fy⟩:=my
 rcases fx with rfl| rfl<;>rcases fy with rfl| rfl
 all_goals
  refine Ev.aG DH (DI _) rfl ?_
  (conv=>whnf);repeat' ((first| intro g| refine av.mk _ (n1) ?_| refine av.mk _ (ex) ?_| refine av.mk _ (ey) ?_| refine st ?_| (first| refine b1 ?_ ?_| refine b2 ?_ ?_| refine Br.mk ?_ ?_) <;>intro hc| exact rfl) <;>conv=>whnf)
theorem Yc {l:List Int} {a0 a1 ax ay d:Nat} (sq: ¬ ((d+1:Nat):Int)≤0)
  (n1:Ev E 85 [.mptr 2 [aW l a0] 0 0,aO 6] ⟨aO 5,[(0,[aW l a1])]⟩) {vx rx:V} (mx:MR vx rx) (ex:Ev E 356 [.mptr 2 [aW l a1] 0 0,.int .i64 (IntKind.i64.wrap (((d+1:Nat):Int) - 1))] ⟨rx,[(0,[aW l ax])]⟩) {vy ry:V} (my:MR vy ry) (ey:Ev E 356 [.mptr 2 [aW l ax] 0 0,.int .i64 (IntKind.i64.wrap (((d+1:Nat):Int) - 1))] ⟨ry,[(0,[aW l ay])]⟩):
  Ev E 356 [.mptr 2 [aW l a0] 0 0,aO (d+1)] ⟨.agg [vi 5,vi 0,vi 0,vi 0,.bool false,.str [],.own 7 [vx,vy]],[(0,[aW l ay])]⟩:=by
 obtain⟨qx,Bx,cx,dx,ox,gx,yx,rfl,fx⟩:=mx
 obtain⟨qy,By,cy,dy,oy,gy,yy,rfl,fy⟩:=my
 rcases fx with rfl| rfl<;>rcases fy with rfl| rfl
 all_goals
  refine Ev.aG DH (DI _) rfl ?_
  (conv=>whnf);repeat' ((first| intro g| refine av.mk _ (n1) ?_| refine av.mk _ (ex) ?_| refine av.mk _ (ey) ?_| refine st ?_| (first| refine b1 ?_ ?_| refine b2 ?_ ?_| refine Br.mk ?_ ?_) <;>intro hc| exact rfl) <;>conv=>whnf)
theorem afe {l:List Int} {a0 a1 a2 r1 r2:Nat}
  (n1:Ev E 85 [.mptr 2 [aW l a0] 0 0,aO 7] ⟨aO r1,[(0,[aW l a1])]⟩) (n2:Ev E 85 [.mptr 2 [aW l a1] 0 0,aO 30] ⟨aO r2,[(0,[aW l a2])]⟩):
  Ev E 354 [.mptr 2 [aW l a0] 0 0,aO 0] ⟨qt r2,[(0,[aW l a2])]⟩:=by
 refine Ev.aG DF (DG _) rfl ?_
 (conv=>whnf);repeat' ((first| intro g| refine av.mk _ (n1) ?_| refine av.mk _ (n2) ?_| refine av.mk _ (kD _) ?_| refine st ?_| (first| refine b1 ?_ ?_| refine b2 ?_ ?_| refine Br.mk ?_ ?_) <;>intro hc| exact rfl) <;>conv=>whnf)
theorem aff {l:List Int} {a0 a1 a2 r1 r2 d:Nat} (h3: ((r1:Nat):Int) < 3) (sq: ¬ ((d+1:Nat):Int)≤0)
  (n1:Ev E 85 [.mptr 2 [aW l a0] 0 0,aO 7] ⟨aO r1,[(0,[aW l a1])]⟩) (n2:Ev E 85 [.mptr 2 [aW l a1] 0 0,aO 30] ⟨aO r2,[(0,[aW l a2])]⟩):
  Ev E 354 [.mptr 2 [aW l a0] 0 0,aO (d+1)] ⟨qt r2,[(0,[aW l a2])]⟩:=by
 refine Ev.aG DF (DG _) rfl ?_
 (conv=>whnf);repeat' ((first| intro g| refine av.mk _ (n1) ?_| refine av.mk _ (n2) ?_| refine av.mk _ (kD _) ?_| refine st ?_| (first| refine b1 ?_ ?_| refine b2 ?_ ?_| refine Br.mk ?_ ?_) <;>intro hc| exact rfl) <;>conv=>whnf)
theorem afg {l:List Int} {a0 a1 a2 r2 d:Nat} {x:Int} (hx: ([4,7,8,5]:List Int)[r2]? =some x) (h4: ((r2:Nat):Int) < 4) (sq: ¬ ((d+1:Nat):Int)≤0)
  (n1:Ev E 85 [.mptr 2 [aW l a0] 0 0,aO 7] ⟨aO 3,[(0,[aW l a1])]⟩) (n2:Ev E 85 [.mptr 2 [aW l a1] 0 0,aO 4] ⟨aO r2,[(0,[aW l a2])]⟩):
  Ev E 354 [.mptr 2 [aW l a0] 0 0,aO (d+1)] ⟨AA x,[(0,[aW l a2])]⟩:=by
 refine Ev.aG DF (DG _) rfl ?_
 (conv=>whnf);repeat' ((first| intro g| refine bD.mk _ (eL hx rfl) ?_| refine av.mk _ (n1) ?_| refine av.mk _ (n2) ?_| refine av.mk _ (jW _) ?_| refine st ?_| (first| refine b1 ?_ ?_| refine b2 ?_ ?_| refine Br.mk ?_ ?_) <;>intro hc| exact rfl) <;>conv=>whnf)
theorem afh {l:List Int} {a0 a1 ax ay az d:Nat} (sq: ¬ ((d+1:Nat):Int)≤0)
  (n1:Ev E 85 [.mptr 2 [aW l a0] 0 0,aO 7] ⟨aO 4,[(0,[aW l a1])]⟩) {vx rx:V} (mx:MR vx rx) (ex:Ev E 357 [.mptr 2 [aW l a1] 0 0] ⟨rx,[(0,[aW l ax])]⟩) {vy ry:V} (my:MR vy ry) (ey:Ev E 354 [.mptr 2 [aW l ax] 0 0,.int .i64 (IntKind.i64.wrap (((d+1:Nat):Int) - 1))] ⟨ry,[(0,[aW l ay])]⟩) {vz rz:V} (mz:MR vz rz) (ez:Ev E 354 [.mptr 2 [aW l ay] 0 0,.int .i64 (IntKind.i64.wrap (((d+1:Nat):Int) - 1))] ⟨rz,[(0,[aW l az])]⟩):
  Ev E 354 [.mptr 2 [aW l a0] 0 0,aO (d+1)] ⟨.agg [vi 13,vi 0,vi 0,vi 0,.bool false,.str [],.own 7 [vx,vy,vz]],[(0,[aW l az])]⟩:=by
 obtain⟨qx,Bx,cx,dx,ox,gx,yx,rfl,fx⟩:=mx
 obtain⟨qy,By,cy,dy,oy,gy,yy,rfl,fy⟩:=my
 obtain⟨qz,Bz,cz,dz,oz,gz,yz,rfl,fz⟩:=mz
 rcases fx with rfl| rfl<;>rcases fy with rfl| rfl<;>rcases fz with rfl| rfl
 all_goals
  refine Ev.aG DF (DG _) rfl ?_
  (conv=>whnf);repeat' ((first| intro g| refine av.mk _ (n1) ?_| refine av.mk _ (ex) ?_| refine av.mk _ (ey) ?_| refine av.mk _ (ez) ?_| refine st ?_| (first| refine b1 ?_ ?_| refine b2 ?_ ?_| refine Br.mk ?_ ?_) <;>intro hc| exact rfl) <;>conv=>whnf)
theorem afi {l:List Int} {a0 a1 a2 ax ay r1 r2 d:Nat} (h3: ¬ ((r1:Nat):Int) < 3) (h4: ¬ ((r1:Nat):Int)=3) (h5: ¬ ((r1:Nat):Int)=4) {x:Int} (hx: ([8,9,10,11,12]:List Int)[r2]? =some x) (h6: ((r2:Nat):Int) < 5) (sq: ¬ ((d+1:Nat):Int)≤0)
  (n1:Ev E 85 [.mptr 2 [aW l a0] 0 0,aO 7] ⟨aO r1,[(0,[aW l a1])]⟩) (n2:Ev E 85 [.mptr 2 [aW l ax] 0 0,aO 5] ⟨aO r2,[(0,[aW l a2])]⟩) {vx rx:V} (mx:MR vx rx) (ex:Ev E 354 [.mptr 2 [aW l a1] 0 0,.int .i64 (IntKind.i64.wrap (((d+1:Nat):Int) - 1))] ⟨rx,[(0,[aW l ax])]⟩) {vy ry:V} (my:MR vy ry) (ey:Ev E 354 [.mptr 2 [aW l a2] 0 0,.int .i64 (IntKind.i64.wrap (((d+1:Nat):Int) - 1))] ⟨ry,[(0,[aW l ay])]⟩):
  Ev E 354 [.mptr 2 [aW l a0] 0 0,aO (d+1)] ⟨.agg [vi x,vi 0,vi 0,vi 0,.bool false,.str [],.own 7 [vx,vy]],[(0,[aW l ay])]⟩:=by
 obtain⟨qx,Bx,cx,dx,ox,gx,yx,rfl,fx⟩:=mx
 obtain⟨qy,By,cy,dy,oy,gy,yy,rfl,fy⟩:=my
 rcases fx with rfl| rfl<;>rcases fy with rfl| rfl
 all_goals
  refine Ev.aG DF (DG _) rfl ?_
  (conv=>whnf);repeat' ((first| intro g| refine bD.mk _ (eL hx rfl) ?_| refine av.mk _ (n1) ?_| refine av.mk _ (n2) ?_| refine av.mk _ (ex) ?_| refine av.mk _ (ey) ?_| refine st ?_| (first| refine b1 ?_ ?_| refine b2 ?_ ?_| refine Br.mk ?_ ?_) <;>intro hc| exact rfl) <;>conv=>whnf)
def J5:Nat→Nat
 | 0=>4
 | d+1=>6+2*J5 d
theorem M5 (d:Nat):4≤J5 d:=by
 cases d<;>simp[J5] <;>omega
theorem Yd {n1 n2 n3:Nat} {x y z:Ex} {t:Int} (hx:Mk 2 n1 x) (hy:Mk t n2 y) (hz:Mk t n3 z) (h1:t≠0):Mk t (1+n1+n2+n3) (.mk 13 0 aM false [x,y,z]) where
 fit:= .mk _ _ _ _ _ (by simp[aM]) (by intro u hu;simp at hu;rcases hu with rfl| rfl| rfl;exact hx.fit;exact hy.fit;exact hz.fit)
 size:=by have:=hx.size;have:=hy.size;have:=hz.size;simp[Ex.size,Ex.bK];omega
 b4:=by
  rw[Ex.pI]
  have h0: ¬ (0 ∈ [2,t,t]):=by simp;exact fun h=>h1 h.symm
  have CE:eJ 13 0 aM [x,y,z].length=true:=by simp[eJ,many,Va.zero,aM]
  simp only[List.map_cons,List.map_nil,hx.b4,hy.b4,hz.b4,jt,CE,if_true,Int.reduceEq,if_false,h0,tU,and_self]
theorem Io (d:Nat) (h:d< 10): (.int .i64 (IntKind.i64.wrap (((d+1:Nat):Int) - 1)):V)=aO d:=by
 rw[wrap64 (by omega) (by omega)]
 show V.int _ _=V.int _ _
 congr 1;omega
theorem Ip {v r:V} (h:MR v r):MR v v:=by
 obtain⟨q,B,c,d,o,g,y,rfl,_⟩:=h
 exact⟨q,B,c,d,o,g,y,rfl,.inl rfl⟩
theorem Iq {l:List Int} (hl:l.length< 9223372036854775808): ∀d,d≤4→Mkr l 356 [aO d] 2 (J5 d)
 | 0,_=>fun a0=>by
   obtain⟨r1,a1,h1,n1⟩:=BI hl 6 a0 (by decide) (by decide)
   obtain⟨x,rx,ax,hx,mx,ex⟩:=C5 hl a1
   exact⟨x,_,ax,hx,Ip mx,X8 n1 mx ex⟩
 | d+1,hd=>fun a0=>by
   have ih:=Iq hl d (by omega)
   rw[←Io d (by omega)] at ih
   have sq: ¬ ((d+1:Nat):Int)≤0:=by omega
   have hq:=M5 d
   obtain⟨r1,a1,h1,n1⟩:=BI hl 6 a0 (by decide) (by decide)
   have hr:r1< 3∨r1=3∨r1=4∨r1=5:=by omega
   rcases hr with hr| rfl| rfl| rfl
   · obtain⟨x,rx,ax,hx,mx,ex⟩:=C5 hl a1
     exact⟨x,_,ax,jk hx (by simp only[J5];omega),Ip mx,X9 (by omega) sq n1 mx ex⟩
   · obtain⟨x,rx,ax,hx,mx,ex⟩:=ih a1
     exact⟨_,_,ax,jk (acE hx) (by simp only[J5];omega),kC ..,Ya sq n1 mx ex⟩
   · obtain⟨x,rx,ax,hx,mx,ex⟩:=ih a1
     obtain⟨y,ry,ay,hy,my,ey⟩:=ih ax
     exact⟨_,_,ay,jk (mO (op:=4) hx hy (by decide) (by decide) (by decide) rfl) (by simp only[J5];omega),kC ..,Yb sq n1 mx ex my ey⟩
   · obtain⟨x,rx,ax,hx,mx,ex⟩:=ih a1
     obtain⟨y,ry,ay,hy,my,ey⟩:=ih ax
     exact⟨_,_,ay,jk (mO (op:=5) hx hy (by decide) (by decide) (by decide) rfl) (by simp only[J5];omega),kC ..,Yc sq n1 mx ex my ey⟩
theorem zU {l:List Int} (hl:l.length< 9223372036854775808): ∀d,d≤4→Mkr l 354 [aO d] 1 (J5 d)
 | 0,_=>fun a0=>by
   obtain⟨r1,a1,h1,n1⟩:=BI hl 7 a0 (by decide) (by decide)
   obtain⟨r2,a2,h2,n2⟩:=BI hl 30 a1 (by decide) (by decide)
   exact⟨_,_,a2,jk (mQ (n:=r2) (by omega)) (by decide),zT ..,afe n1 n2⟩
 | d+1,hd=>fun a0=>by
   have ih:=zU hl d (by omega)
   rw[←Io d (by omega)] at ih
   have sq: ¬ ((d+1:Nat):Int)≤0:=by omega
   have hq:=M5 d
   obtain⟨r1,a1,h1,n1⟩:=BI hl 7 a0 (by decide) (by decide)
   have hr:r1< 3∨r1=3∨r1=4∨4 <r1:=by omega
   rcases hr with hr| rfl| rfl| hr
   · obtain⟨r2,a2,h2,n2⟩:=BI hl 30 a1 (by decide) (by decide)
     exact⟨_,_,a2,jk (mQ (n:=r2) (by omega)) (by simp only[J5];omega),zT ..,aff (by omega) sq n1 n2⟩
   · obtain⟨r2,a2,h2,n2⟩:=BI hl 4 a1 (by decide) (by decide)
     obtain⟨x,hx,FR⟩: ∃x,([4,7,8,5]:List Int)[r2]? =some x∧cI x=1:=by
      have en: ∀x ∈ ([4,7,8,5]:List Int),cI x=1:=by decide
      exact⟨_,bp h2,en _ (List.getElem_mem h2)⟩
     have hm:=oA (v:=x) (by rw[FR];decide)
     rw[FR] at hm
     exact⟨_,_,a2,jk hm (by simp only[J5];omega),zT ..,afg hx (by omega) sq n1 n2⟩
   · obtain⟨x,rx,ax,hx,mx,ex⟩:=C5 hl a1
     obtain⟨y,ry,ay,hy,my,ey⟩:=ih ax
     obtain⟨z,rz,az,hz,mz,ez⟩:=ih ay
     exact⟨_,_,az,jk (Yd hx hy hz (by decide)) (by simp only[J5];omega),kC ..,afh sq n1 mx ex my ey mz ez⟩
   · obtain⟨x,rx,ax,hx,mx,ex⟩:=ih a1
     obtain⟨r2,a2,h2,n2⟩:=BI hl 5 ax (by decide) (by decide)
     obtain⟨y,ry,ay,hy,my,ey⟩:=ih a2
     obtain⟨w,hw,hwt⟩: ∃w,([8,9,10,11,12]:List Int)[r2]? =some w∧4≤w∧w≤12∧tU w [1,1]=1:=by
      have en: ∀w ∈ ([8,9,10,11,12]:List Int),4≤w∧w≤12∧tU w [1,1]=1:=by decide
      exact⟨_,bp h2,en _ (List.getElem_mem h2)⟩
     exact⟨_,_,ay,jk (mO (op:=w) hx hy (by decide) (by decide) ⟨hwt.1,hwt.2.1⟩ hwt.2.2) (by simp only[J5];omega),kC ..,afi (by omega) (by omega) (by omega) hw (by omega) sq n1 n2 mx ex my ey⟩
end Go.AM
