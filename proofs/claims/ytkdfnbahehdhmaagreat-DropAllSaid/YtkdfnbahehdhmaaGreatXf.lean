/-
  Texts of the proof, joined by program: DcF, DcH, DcQ, DcU, DcV, DcW. Own work.
-/
import Derived.Test.YtkdfnbahehdhmaaGreatXo
import Derived.Test.YtkdfnbahehdhmaaGreatXa
import Derived.Test.YtkdfnbahehdhmaaGreatBase
set_option linter.unusedSimpArgs false
set_option linter.unusedVariables false
set_option maxRecDepth 20000
set_option maxHeartbeats 2000000
namespace Go.AM
theorem pU (l:List Pt) (h:l.length< 1000000):Ev E 32 [dJ l] ⟨.own 2 (l.map Pt.v),[]⟩:=
 Ev.ext (by rw[abm];simp[fi,dJ];omega)
structure aQ.Fit (m:aQ):Prop where
 e:m.aH.length< 1000000
 f:m.bn.length< 1000000
 w:m.ways.length< 1000000
 p:m.aZ.length< 1000000
 el: ∀e ∈ m.aH,e.line.length< 1000000
 wl: ∀w ∈ m.ways,w.line.length< 1000000
theorem Fw (e:Edge) (id:Int):Ev E 557 [e.v,.eptr (vi id) 0] ⟨.bool (decide (e.id=id)),[]⟩:=by
 refine Ev.aG U6 (U7 _) rfl ?_
 (conv=>whnf);repeat' ((first| intro g| refine st ?_| (first| refine b1 ?_ ?_| refine b2 ?_ ?_| refine Br.mk ?_ ?_) <;>intro hc| exact rfl) <;>conv=>whnf)
def lG (es:List Edge) (id:Int):Int:=firstIdx (fun e=>decide (e.id=id)) es
theorem vO {m:aQ} (h:m.Fit) (id:Int):Ev E 543 [m.v,vi id] ⟨vi (lG m.aH id),[]⟩:=by
 have he:=h.e
 have hi:=Im (l:=m.aH) (caps:=[.eptr (vi id) 0]) rfl (by omega) (fun x=>Fw x id) rfl
 refine Ev.aG UB (UC _) rfl ?_
 (conv=>whnf);repeat' ((first| intro g| refine ag.mk _ (hi) ?_| refine st ?_| (first| refine b1 ?_ ?_| refine b2 ?_ ?_| refine Br.mk ?_ ?_) <;>intro hc| exact rfl) <;>conv=>whnf)
 all_goals rfl
structure oC (m:aQ) where
 k:Nat
 n:Nat
 e:Edge
 a:Pt
 b:Pt
 c:Pt
 he:m.aH[k]? =some e
 hf:lG m.aH e.id=(k:Int)
 hn:1≤n
 ha:e.line[n - 1]? =some a
 hb:e.line[n]? =some b
 hc:e.line[n+1]? =some c
 oO:m.aH.length< 1000000
 hl:e.line.length< 1000000
def oC.v {m:aQ} (q:oC m):V:= .agg [aD q.k,aD q.n,vi q.a.x,vi q.a.y,vi q.b.x,vi q.b.y,vi q.c.x,vi q.c.y]
theorem Iy {m:aQ} (h:m.Fit) (q:oC m):Ev E 534 [m.v,vi q.e.id,aD q.n] ⟨.tuple [q.v,vi 0],[]⟩:=by
 have hf:=vO h q.e.id
 obtain⟨k,n,e,a,b,c,he,IQ,hn,ha,hb,hc,oO,hl⟩:=q
 dsimp only at hf ⊢
 rw[IQ] at hf
 have hk:=(List.getElem?_eq_some_iff.1 he).1
 have qT:=(List.getElem?_eq_some_iff.1 hc).1
 have w1:IntKind.i64.wrap ((n:Int) - 1)=((n - 1:Nat):Int):=(wrap64 (by omega) (by omega)).trans (by omega)
 have w2:IntKind.i64.wrap ((n:Int)+1)=((n+1:Nat):Int):=(wrap64 (by omega) (by omega)).trans (by omega)
 have w3:IntKind.i64.wrap (((e.line.map Pt.v).length:Int) - 2)=(e.line.length:Int) - 2:=by rw[List.length_map];exact wrap64 (by omega) (by omega)
 refine Ev.aG Gv (Gw _) rfl ?_
 (conv=>whnf);repeat' ((first| ((exfalso;omega)) | intro g| refine aL.mk _ (aq he rfl) ?_| refine aL.mk _ (aq ha w1) ?_| refine aL.mk _ (aq hb rfl) ?_| refine aL.mk _ (aq hc w2) ?_| refine ag.mk _ (hf) ?_| refine st ?_| (first| refine b1 ?_ ?_| refine b2 ?_ ?_| refine Br.mk ?_ ?_) <;>intro hc| exact rfl) <;>conv=>whnf)
theorem Cz (x:Int): -9223372036854775808≤wb x∧wb x≤9223372036854775807:=by
 unfold wb IntKind.wrap
 simp only[IntKind.bits,IntKind.signed]
 simp
 omega
theorem Fy (f:aI) (id:Int):Ev E 551 [f.v,.eptr (vi id) 0] ⟨.bool (decide (f.id=id)),[]⟩:=by
 refine Ev.aG UP (UQ _) rfl ?_
 (conv=>whnf);repeat' ((first| intro g| refine st ?_| (first| refine b1 ?_ ?_| refine b2 ?_ ?_| refine Br.mk ?_ ?_) <;>intro hc| exact rfl) <;>conv=>whnf)
def fz0:aI:=⟨0,[],[],0,0⟩
def kP (m:aQ) (id:Int):Int:=firstIdx (fun f:aI=>decide (f.id=id)) m.bn
def j8 (m:aQ) (id:Int):Int:=if kP m id< 0 then 0 else(m.bn.getD (kP m id).toNat fz0).eW
theorem pV {m:aQ} {id:Int} (h:kP m id= -1):j8 m id=0:=by unfold j8;rw[h];rfl
theorem vP {m:aQ} {id:Int} {i:Nat} {x:aI} (h:kP m id=i) (hx:m.bn[i]? =some x):j8 m id=x.eW:=by
 unfold j8
 rw[h,if_neg (by omega),Int.toNat_natCast]
 simp[List.getD_eq_getElem?_getD,hx]
theorem xC {m:aQ} (h:m.Fit) (id:Int):Ev E 550 [vi id,.eptr m.v 0] ⟨vi (j8 m id),[]⟩:=by
 have hf:=h.f
 have hi:Ev E 179 _ ⟨vi (kP m id),[]⟩:=Io (l:=m.bn) (caps:=[.eptr (vi id) 0]) rfl (by omega) (fun x=>Fy x id) rfl
 rcases jN (fun f:aI=>decide (f.id=id)) m.bn with⟨h1,_⟩ | ⟨i,x,h1,h2,h3⟩
 · have h1:kP m id= -1:=h1
   rw[pV h1]
   rw[h1] at hi
   refine Ev.aG LM (LN _) rfl ?_
   (conv=>whnf);repeat' ((first| intro g| refine ag.mk _ (hi) ?_| refine st ?_| (first| refine b1 ?_ ?_| refine b2 ?_ ?_| refine Br.mk ?_ ?_) <;>intro hc| exact rfl) <;>conv=>whnf)
 · have h1:kP m id=i:=h1
   rw[vP h1 h2]
   rw[h1] at hi
   have:=(List.getElem?_eq_some_iff.1 h2).1
   refine Ev.aG LM (LN _) rfl ?_
   (conv=>whnf);repeat' ((first| ((exfalso;omega)) | intro g| refine aL.mk _ (aq h2 rfl) ?_| refine ag.mk _ (hi) ?_| refine st ?_| (first| refine b1 ?_ ?_| refine b2 ?_ ?_| refine Br.mk ?_ ?_) <;>intro hc| exact rfl) <;>conv=>whnf)
def pW (m:aQ) (e:Edge):Int:=if j8 m e.left=j8 m e.right then j8 m e.left else 0
theorem Iz {m:aQ} (h:m.Fit) (e:Edge):Ev E 540 [m.v,e.v] ⟨vi (pW m e),[]⟩:=by
 have h1:=xC h e.left
 have h2:=xC h e.right
 unfold pW
 by_cases hd:j8 m e.left=j8 m e.right
 · rw[if_pos hd]
   refine Ev.aG LG (LH _) rfl ?_
   (conv=>whnf);repeat' ((first| intro g| refine ag.mk _ (h1) ?_| refine ag.mk _ (h2) ?_| refine st ?_| (first| refine b1 ?_ ?_| refine b2 ?_ ?_| refine Br.mk ?_ ?_) <;>intro hc| exact rfl) <;>conv=>whnf)
 · rw[if_neg hd]
   refine Ev.aG LG (LH _) rfl ?_
   (conv=>whnf);repeat' ((first| intro g| refine ag.mk _ (h1) ?_| refine ag.mk _ (h2) ?_| refine st ?_| (first| refine b1 ?_ ?_| refine b2 ?_ ?_| refine Br.mk ?_ ?_) <;>intro hc| exact rfl) <;>conv=>whnf)
theorem AW {m:aQ} (h:m.Fit) (id:Int):Ev E 546 [m.v,vi id] ⟨vi (j8 m id),[]⟩:=by
 have hf:=h.f
 refine Ev.aG UD (UE _) rfl ?_
 (conv=>whnf);repeat' ((first| intro g| refine st ?_| (first| refine b1 ?_ ?_| refine b2 ?_ ?_| refine Br.mk ?_ ?_) <;>intro hc| exact rfl) <;>conv=>whnf)
 refine aV.by (fun k:Nat=> ⟨[(1,vi id),(2,.ptr 48 g 0 0),(5,aD k)],[(48,⟨g,4,false,false,some [m.v]⟩)]⟩) (fun k=>k≤m.bn.length∧ ∀ (j:Nat) y,j<k→m.bn[j]? =some y→decide (y.id=id)=false) (fun k=>m.bn.length - k) 0 (by(refine⟨?_,?_⟩ <;>repeat' (first| exact True.intro| refine ai ?_| refine And.intro ?_ ?_))) ⟨by simp,by intro j y hj;omega⟩ ?_
 rintro k ⟨hk,ez⟩
 try dsimp only at hk ez
 by_cases bl:k<m.bn.length
 · obtain⟨x,hx⟩: ∃x,m.bn[k]? =some x:=⟨_,aE bl⟩
   by_cases he:x.id=id
   · have h1:kP m id=k:=dH ez hx (decide_eq_true he)
     rw[vP h1 hx]
     (conv=>whnf);repeat' ((first| intro g| refine aL.mk _ (aq hx rfl) ?_| refine st ?_| (first| refine b1 ?_ ?_| refine b2 ?_ ?_| refine Br.mk ?_ ?_) <;>intro hc| exact rfl) <;>conv=>whnf)
   · (conv=>whnf);repeat' ((first| intro g| refine aL.mk _ (aq hx rfl) ?_| refine st ?_| (first| refine b1 ?_ ?_| refine b2 ?_ ?_| refine Br.mk ?_ ?_) <;>intro hc| exact rfl) <;>conv=>whnf)
     exact a9.mk (k+1) (by first| omega| (dsimp only;omega)) ⟨by omega,fun j y hj hy=>by
       by_cases e:j=k
       · subst e;rw[hx] at hy;injection hy with hy;subst hy;exact decide_eq_false he
       · exact ez j y (by omega) hy⟩ (by(refine⟨?_,?_⟩ <;>repeat' (first| exact True.intro| refine ai ?_| refine And.intro ?_ ?_)))
 · have h1:kP m id= -1:=firstIdx_none fun j y hy=>ez j y (by have:=(List.getElem?_eq_some_iff.1 hy).1;omega) hy
   rw[pV h1]
   (conv=>whnf);repeat' ((first| intro g| refine st ?_| (first| refine b1 ?_ ?_| refine b2 ?_ ?_| refine Br.mk ?_ ?_) <;>intro hc| exact rfl) <;>conv=>whnf)
theorem j9 {m:aQ} (h:m.Fit) (id:Int):Ev E 538 [m.v,vi id] ⟨vi (lG m.aH id),[]⟩:=by
 have hf:=h.e
 refine Ev.aG Uj (Uk _) rfl ?_
 (conv=>whnf);repeat' ((first| intro g| refine st ?_| (first| refine b1 ?_ ?_| refine b2 ?_ ?_| refine Br.mk ?_ ?_) <;>intro hc| exact rfl) <;>conv=>whnf)
 refine aV.by (fun k:Nat=> ⟨[(1,vi id),(2,.ptr 48 g 0 0),(5,aD k)],[(48,⟨g,4,false,false,some [m.v]⟩)]⟩) (fun k=>k≤m.aH.length∧ ∀ (j:Nat) y,j<k→m.aH[j]? =some y→decide (y.id=id)=false) (fun k=>m.aH.length - k) 0 (by(refine⟨?_,?_⟩ <;>repeat' (first| exact True.intro| refine ai ?_| refine And.intro ?_ ?_))) ⟨by simp,by intro j y hj;omega⟩ ?_
 rintro k ⟨hk,ez⟩
 try dsimp only at hk ez
 by_cases bl:k<m.aH.length
 · obtain⟨x,hx⟩: ∃x,m.aH[k]? =some x:=⟨_,aE bl⟩
   by_cases he:x.id=id
   · have h1:lG m.aH id=k:=dH ez hx (decide_eq_true he)
     rw[h1]
     (conv=>whnf);repeat' ((first| intro g| refine aL.mk _ (aq hx rfl) ?_| refine st ?_| (first| refine b1 ?_ ?_| refine b2 ?_ ?_| refine Br.mk ?_ ?_) <;>intro hc| exact rfl) <;>conv=>whnf)
   · (conv=>whnf);repeat' ((first| intro g| refine aL.mk _ (aq hx rfl) ?_| refine st ?_| (first| refine b1 ?_ ?_| refine b2 ?_ ?_| refine Br.mk ?_ ?_) <;>intro hc| exact rfl) <;>conv=>whnf)
     exact a9.mk (k+1) (by first| omega| (dsimp only;omega)) ⟨by omega,fun j y hj hy=>by
       by_cases e:j=k
       · subst e;rw[hx] at hy;injection hy with hy;subst hy;exact decide_eq_false he
       · exact ez j y (by omega) hy⟩ (by(refine⟨?_,?_⟩ <;>repeat' (first| exact True.intro| refine ai ?_| refine And.intro ?_ ?_)))
 · have h1:lG m.aH id= -1:=firstIdx_none fun j y hy=>ez j y (by have:=(List.getElem?_eq_some_iff.1 hy).1;omega) hy
   rw[h1]
   (conv=>whnf);repeat' ((first| intro g| refine st ?_| (first| refine b1 ?_ ?_| refine b2 ?_ ?_| refine Br.mk ?_ ?_) <;>intro hc| exact rfl) <;>conv=>whnf)
def yT (a b:Pt):Int:=wb (wb (a.x*b.y) - wb (a.y*b.x))
theorem IA (a b:Pt):Ev E 219 [a.v,b.v] ⟨vi (yT a b),[]⟩:=by
 refine Ev.aG Ut (Uu _) rfl ?_
 (conv=>whnf);repeat' ((first| intro g| refine st ?_| (first| refine b1 ?_ ?_| refine b2 ?_ ?_| refine Br.mk ?_ ?_) <;>intro hc| exact rfl) <;>conv=>whnf)
def AX (a b:Pt):Pt:=⟨wb (a.x - b.x),wb (a.y - b.y)⟩
def oC.CA {m:aQ} (q:oC m):Int:=yT (AX q.b q.a) (AX q.c q.a)
def CB (x:Int):Int:=if x<wb (0 - x) then wb (0 - x) else x
theorem DL {x:Int} (h:x≤9223372036854775807):CB x≤9223372036854775807:=by
 unfold CB
 split
 · exact(Cz _).2
 · exact h
noncomputable def oC.cost {m:aQ} (q:oC m):Int:=vI (CB q.CA)
theorem Lh {m:aQ} (h:m.Fit) (q:oC m):Ev E 527 [m.v,vi q.e.id,aD q.n] ⟨vi q.cost,[]⟩:=by
 have nk:=Iy h q
 have hs:=K4 (n:=CB q.CA) (DL (Cz _).2)
 refine Ev.aG LD (LF _) rfl ?_
 (conv=>whnf);repeat' ((first| intro g| refine ag.mk _ (nk) ?_| refine ag.mk _ (Cs q.b q.a) ?_| refine ag.mk _ (Cs q.c q.a) ?_| refine ag.mk _ (IA (AX q.b q.a) (AX q.c q.a)) ?_| refine ag.mk _ (hs) ?_| refine st ?_| (first| refine b1 ?_ ?_| refine b2 ?_ ?_| refine Br.mk ?_ ?_) <;>intro hc| exact rfl) <;>conv=>whnf)
end Go.AM
set_option maxRecDepth 20000
set_option maxHeartbeats 2000000
namespace Go.AM
def DM:V:= .agg [vi 0,vi 0,vi 0,vi 0,vi 0,vi 0,vi 0,vi 0]
theorem Li {m:aQ} (h:m.Fit) {id n:Int} (hf:lG m.aH id= -1):Ev E 534 [m.v,vi id,vi n] ⟨.tuple [DM,vi 5],[]⟩:=by
 have hi:=vO h id
 rw[hf] at hi
 refine Ev.aG Gv (Gw _) rfl ?_
 (conv=>whnf);repeat' ((first| intro g| refine ag.mk _ (hi) ?_| refine st ?_| (first| refine b1 ?_ ?_| refine b2 ?_ ?_| refine Br.mk ?_ ?_) <;>intro hc| exact rfl) <;>conv=>whnf)
theorem SA {m:aQ} (h:m.Fit) {id n:Int} {k:Nat} {e:Edge} (hf:lG m.aH id=k) (he:m.aH[k]? =some e) (hn:n< 1∨(e.line.length:Int) - 2 <n):Ev E 534 [m.v,vi id,vi n] ⟨.tuple [DM,vi 1],[]⟩:=by
 have hi:=vO h id
 rw[hf] at hi
 have hl:=h.el e (List.mem_of_getElem? he)
 have w3:IntKind.i64.wrap (((e.line.map Pt.v).length:Int) - 2)=(e.line.length:Int) - 2:=by rw[List.length_map];exact wrap64 (by omega) (by omega)
 refine Ev.aG Gv (Gw _) rfl ?_
 (conv=>whnf);repeat' ((first| ((exfalso;omega)) | intro g| refine aL.mk _ (aq he rfl) ?_| refine ag.mk _ (hi) ?_| refine st ?_| (first| refine b1 ?_ ?_| refine b2 ?_ ?_| refine Br.mk ?_ ?_) <;>intro hc| exact rfl) <;>conv=>whnf)
theorem xD {m:aQ} {id n:Int} {x:Int} (hx:x≠0) (nk:Ev E 534 [m.v,vi id,vi n] ⟨.tuple [DM,vi x],[]⟩):Ev E 527 [m.v,vi id,vi n] ⟨vi 0,[]⟩:=by
 refine Ev.aG LD (LF _) rfl ?_
 (conv=>whnf);repeat' ((first| contradiction| intro g| refine ag.mk _ (nk) ?_| refine st ?_| (first| refine b1 ?_ ?_| refine b2 ?_ ?_| refine Br.mk ?_ ?_) <;>intro hc| exact rfl) <;>conv=>whnf)
theorem Fz (a b:Pt):Ev E 542 [a.v,b.v] ⟨vi (yT a b),[]⟩:=by
 refine Ev.aG Ux (Uy _) rfl ?_
 (conv=>whnf);repeat' ((first| intro g| refine st ?_| (first| refine b1 ?_ ?_| refine b2 ?_ ?_| refine Br.mk ?_ ?_) <;>intro hc| exact rfl) <;>conv=>whnf)
theorem CC {m:aQ} (h:m.Fit) {id n:Int} (hf:lG m.aH id= -1):Ev E 528 [m.v,vi id,vi n] ⟨vi 0,[]⟩:=by
 have hi:=j9 h id
 rw[hf] at hi
 refine Ev.aG Gt (Gu _) rfl ?_
 (conv=>whnf);repeat' ((first| intro g| refine ag.mk _ (hi) ?_| refine st ?_| (first| refine b1 ?_ ?_| refine b2 ?_ ?_| refine Br.mk ?_ ?_) <;>intro hc| exact rfl) <;>conv=>whnf)
theorem FA {m:aQ} (h:m.Fit) {id n:Int} {k:Nat} {e:Edge} (hf:lG m.aH id=k) (he:m.aH[k]? =some e) (hn:n< 1∨(e.line.length:Int) - 2 <n):Ev E 528 [m.v,vi id,vi n] ⟨vi 0,[]⟩:=by
 have hi:=j9 h id
 rw[hf] at hi
 have hl:=h.el e (List.mem_of_getElem? he)
 have w3:IntKind.i64.wrap (((e.line.map Pt.v).length:Int) - 2)=(e.line.length:Int) - 2:=by rw[List.length_map];exact wrap64 (by omega) (by omega)
 refine Ev.aG Gt (Gu _) rfl ?_
 (conv=>whnf);repeat' ((first| ((exfalso;omega)) | intro g| refine aL.mk _ (aq he rfl) ?_| refine ag.mk _ (hi) ?_| refine st ?_| (first| refine b1 ?_ ?_| refine b2 ?_ ?_| refine Br.mk ?_ ?_) <;>intro hc| exact rfl) <;>conv=>whnf)
end Go.AM
set_option maxRecDepth 20000
set_option maxHeartbeats 2000000
namespace Go.AM
theorem IB {n:Int} (hn:n≤9223372036854775807):Ev E 127 [vi n] ⟨vi (vI n),[]⟩:=by
 refine Ev.aG Uz (UA _) rfl ?_
 (conv=>whnf);repeat' ((first| intro g| refine st ?_| (first| refine b1 ?_ ?_| refine b2 ?_ ?_| refine Br.mk ?_ ?_) <;>intro hc| exact rfl) <;>conv=>whnf)
 refine aV.by (fun (p:Nat×Int)=> ⟨[(0,vi n),(3,vi p.2),(4,vi ((p.1:Int) - 1))],[]⟩)
   (fun p=>p.1≤32∧0≤p.2∧(p.2*p.2≤n∨p.2=0)∧p.2≤3037000499∧(n< (p.2+2 ^ p.1)*(p.2+2 ^ p.1)∨3037000500≤p.2+2 ^ p.1)) (fun p=>p.1) (32,0) ?_ ?_ ?_
 · (refine⟨?_,?_⟩ <;>repeat' (first| exact True.intro| refine ai ?_| refine And.intro ?_ ?_))
 · simp
 rintro⟨k,s⟩ ⟨h1,h2,h3,h4,h5⟩
 dsimp only at h1 h2 h3 h4 h5
 cases k with
 | zero=>
   (conv=>whnf);repeat' ((first| intro g| refine st ?_| (first| refine b1 ?_ ?_| refine b2 ?_ ?_| refine Br.mk ?_ ?_) <;>intro hc| exact rfl) <;>conv=>whnf)
   show (⟨vi s,[]⟩:fL)=_
   congr 2
   rw[show (2:Int) ^ 0=1 from rfl] at h5
   by_cases Cc:n≤0
   · rw[xA Cc]
     rcases h3 with h3| h3
     · by_cases hs:s=0
       · exact hs
       · have:=Int.mul_pos (show 0 <s by omega) (show 0 <s by omega);omega
     · exact h3
   · have I1:s*s≤n:=by
       rcases h3 with h3| h3
       · exact h3
       · subst h3;omega
     refine(rv ⟨h2,I1,?_⟩).symm
     rcases h5 with h5| h5
     · exact h5
     · have hs:s=3037000499:=by omega
       rw[hs,show ((3037000499:Int)+1)*(3037000499+1)=9223372037000250000 from rfl]
       omega
 | succ j=>
   have hj:min (((j+1:Nat):Int) - 1).toNat IntKind.i64.bits=j:=by
     have:IntKind.i64.bits=64:=rfl
     rw[this];omega
   have yy: (1:Int)≤2 ^ j:=by
     have:=Nat.one_le_two_pow (n:=j)
     exact_mod_cast this
   have hle: (2:Int) ^ j≤2147483648:=by
     have h31: (2:Nat) ^ j≤2147483648:=Nat.le_trans (show (2:Nat) ^ j≤2 ^ 31 from Nat.pow_le_pow_right (by omega) (by omega)) (by decide)
     have h32: ((2 ^ j:Nat):Int)≤((2147483648:Nat):Int):=Int.ofNat_le.2 h31
     rw[Int.natCast_pow] at h32
     exact h32
   have h2p: (2:Int) ^ (j+1)=2*2 ^ j:=by rw[Int.pow_succ];omega
   rw[h2p] at h5
   have hp:IntKind.i64.wrap (1*2 ^ min (((j+1:Nat):Int) - 1).toNat IntKind.i64.bits)=2 ^ j:=by
     rw[hj,Int.one_mul];exact wrap64 (by omega) (by omega)
   have hw:IntKind.i64.wrap (s+2 ^ j)=s+2 ^ j:=wrap64 (by omega) (by omega)
   have mF:s+2 ^ j+2 ^ j=s+2*2 ^ j:=by omega
   have Sw:s+2 ^ j≤3037000499→IntKind.i64.wrap ((s+2 ^ j)*(s+2 ^ j))=(s+2 ^ j)*(s+2 ^ j):=fun h=>by
     have:=oz (a:=s+2 ^ j) (b:=3037000499) (by omega) h
     have:=Int.mul_nonneg (show 0≤s+2 ^ j by omega) (show 0≤s+2 ^ j by omega)
     exact wrap64 (by omega) (by omega)
   (conv=>whnf);repeat' ((first| intro g| refine st ?_| (first| refine b1 ?_ ?_| refine b2 ?_ ?_| refine Br.mk ?_ ?_) <;>intro hc| exact rfl) <;>conv=>whnf)
   · rename_i qC
     rw[hp,hw] at qC
     rw[hp,hw,Sw qC] at hc
     refine a9.mk (j,s+2 ^ j) (by dsimp only;omega) ?_ ?_
     · exact⟨by omega,by omega,.inl hc,qC,by dsimp only;rw[mF];exact h5⟩
     · have e1:V.int .i64 (IntKind.i64.wrap (s+IntKind.i64.wrap (1*2 ^ min (((j+1:Nat):Int) - 1).toNat IntKind.i64.bits)))=vi (s+2 ^ j):=by rw[hp,hw]
       (refine⟨?_,?_⟩ <;>repeat' (first| exact True.intro| refine And.intro (e1) ?_| refine ai ?_| refine And.intro ?_ ?_))
   · rename_i qC
     rw[hp,hw] at qC
     rw[hp,hw,Sw qC] at hc
     refine a9.mk (j,s) (by dsimp only;omega) ?_ (by(refine⟨?_,?_⟩ <;>repeat' (first| exact True.intro| refine ai ?_| refine And.intro ?_ ?_)))
     exact⟨by omega,by omega,h3,h4,.inl (by dsimp only;omega)⟩
   · rw[hp,hw] at hc
     refine a9.mk (j,s) (by dsimp only;omega) ?_ (by(refine⟨?_,?_⟩ <;>repeat' (first| exact True.intro| refine ai ?_| refine And.intro ?_ ?_)))
     exact⟨by omega,by omega,h3,h4,.inr (by dsimp only;omega)⟩
theorem IC {m:aQ} (h:m.Fit) (q:oC m):Ev E 528 [m.v,vi q.e.id,aD q.n] ⟨vi q.cost,[]⟩:=by
 have hf:=j9 h q.e.id
 have s1:Ev E 161 [q.b.v,q.a.v] ⟨(AX q.b q.a).v,[]⟩:=yR _ _
 have s2:Ev E 161 [q.c.v,q.a.v] ⟨(AX q.c q.a).v,[]⟩:=yR _ _
 have hx:Ev E 542 [(AX q.b q.a).v,(AX q.c q.a).v] ⟨vi q.CA,[]⟩:=Fz _ _
 have hb:CB q.CA≤9223372036854775807:=DL (by unfold oC.CA yT;exact(Cz _).2)
 have hs:Ev E 127 [vi (CB q.CA)] ⟨vi q.cost,[]⟩:=IB hb
 generalize q.CA=ar at*
 generalize q.cost=ct at*
 obtain⟨k,n,e,a,b,c,he,IQ,hn,ha,rC,hc,oO,hl⟩:=q
 dsimp only at hf s1 s2 hx ⊢
 rw[IQ] at hf
 have hk:=(List.getElem?_eq_some_iff.1 he).1
 have qT:=(List.getElem?_eq_some_iff.1 hc).1
 have w1:IntKind.i64.wrap ((n:Int) - 1)=((n - 1:Nat):Int):=(wrap64 (by omega) (by omega)).trans (by omega)
 have w2:IntKind.i64.wrap ((n:Int)+1)=((n+1:Nat):Int):=(wrap64 (by omega) (by omega)).trans (by omega)
 have w3:IntKind.i64.wrap (((e.line.map Pt.v).length:Int) - 2)=(e.line.length:Int) - 2:=by rw[List.length_map];exact wrap64 (by omega) (by omega)
 unfold CB wb at hs
 refine Ev.aG Gt (Gu _) rfl ?_
 (conv=>whnf);repeat' ((first| ((exfalso;omega)) | intro g| refine aL.mk _ (aq he rfl) ?_| refine aL.mk _ (aq ha w1) ?_| refine aL.mk _ (aq rC rfl) ?_| refine aL.mk _ (aq hc w2) ?_| refine ag.mk _ (hf) ?_| refine ag.mk _ (s1) ?_| refine ag.mk _ (s2) ?_| refine ag.mk _ (hx) ?_| refine ag.mk _ (hs) ?_| refine st ?_| (first| refine b1 ?_ ?_| refine b2 ?_ ?_| refine Br.mk ?_ ?_) <;>intro hc| exact rfl) <;>conv=>whnf)
end Go.AM
set_option maxRecDepth 20000
set_option maxHeartbeats 2000000
namespace Go.AM
theorem AY {l:List Pt} {i:Nat} (hi:i<l.length) (h:l.length< 1000000):Ev E 547 [.msl 2 (l.map Pt.v) 0 l.length,aD i,vi (IntKind.i64.wrap ((i:Int)+1))] ⟨.sl 0 0 0 (l.length - 1),[(0,(l.eraseIdx i).map Pt.v++[(Pt.mk 0 0).v])]⟩:=by
 have hw:IntKind.i64.wrap ((i:Int)+1)=((i+1:Nat):Int):=(wrap64 (by omega) (by omega)).trans (by omega)
 rw[hw]
 refine Ev.aG UJ (UK _) rfl ?_
 have GZ:aN (l.map Pt.v) (0+((i+1:Nat):Int).toNat) (l.length - ((i+1:Nat):Int).toNat)=(l.drop (i+1)).map Pt.v:=by
  rw[jE]
  congr 1
  rw[List.take_of_length_le (by simp)]
  simp
 (conv=>whnf);repeat' ((first| intro g| refine dI.mk (by first| ((and_intros<;>first| rfl| exact dh (dh (Pt.bZ _) (Pt.bZ _)) (eZ rfl) | exact nd (dh (dh (Pt.bZ _) (Pt.bZ _)) (eZ rfl)) | (simp only[overwrite,aN,List.length_map,List.length_append,List.length_cons,List.length_nil,List.length_take,List.length_drop];omega) | omega)) | fail) ?_| refine aL.mk _ (GZ) ?_| refine st ?_| (first| refine b1 ?_ ?_| refine b2 ?_ ?_| refine Br.mk ?_ ?_) <;>intro hc| exact rfl) <;>conv=>whnf)
 obtain⟨A,x,B,rfl,hA⟩: ∃A x B,l=A++x::B∧A.length=i:=⟨l.take i,l[i],l.drop (i+1),by simp,by simp;omega⟩
 have e1: (A++x::B).drop (i+1)=B:=by
  rw[←hA];simp[List.drop_append]
 have e2: (A++x::B).eraseIdx i=A++B:=by
  rw[←hA];simp[List.eraseIdx_append_of_length_le]
 have e3: ((i:Int).toNat - 0+((B).map Pt.v).length)=A.length+B.length:=by simp;omega
 rw[e1,e2,e3]
 have e4: ((A.length+B.length:Nat):Int).toNat=A.length+B.length:=by omega
 have e5: (((A++x::B).length:Nat):Int).toNat - (A.length+B.length)=1:=by simp;omega
 have e6: (A++x::B).length - 1=A.length+B.length:=by simp
 rw[e4,e5,e6]
 subst hA
 show (⟨V.sl 0 0 0 _,[(0,_)]⟩:fL)=_
 congr 3
 simp[overwrite,List.take_append,List.drop_append]
 rw[List.take_of_length_le (by simp),List.drop_eq_nil_of_le (by simp;omega),List.drop_eq_nil_of_le (by simp;omega),List.drop_eq_nil_of_le (by simp;omega),List.drop_eq_nil_of_le (by simp;omega)]
 rfl
def oC.rest {m:aQ} (q:oC m):List Pt:=q.e.line.eraseIdx q.n
theorem DN {m:aQ} (q:oC m):Ev E 535 [q.v,m.v] ⟨.own 2 (q.rest.map Pt.v),[]⟩:=by
 have qT:=pU q.e.line q.hl
 have hb:=(List.getElem?_eq_some_iff.1 q.hb).1
 have acN:=AY (i:=q.n) hb q.hl
 have hle:q.e.line.length - 1=q.rest.length:=by simp[oC.rest,List.length_eraseIdx,hb]
 have aaw:Ev E 547 [.msl 2 (q.e.line.map Pt.v) 0 (q.e.line.map Pt.v).length,aD q.n,vi (IntKind.i64.wrap ((q.n:Int)+1))] ⟨.sl 0 0 0 (q.e.line.length - 1),[(0,q.rest.map Pt.v++[(Pt.mk 0 0).v])]⟩:=by
  rw[List.length_map];exact acN
 refine Ev.aG Uf (Ug _) rfl ?_
 have he:=q.he
 (conv=>whnf);repeat' ((first| intro g| refine aL.mk _ (aq he rfl) ?_| refine aL.mk _ (xS hle) ?_| refine ag.mk _ (qT) ?_| refine ag.mk _ (aaw) ?_| refine st ?_| (first| refine b1 ?_ ?_| refine b2 ?_ ?_| refine Br.mk ?_ ?_) <;>intro hc| exact rfl) <;>conv=>whnf)
theorem SB {l:List Pt} {p:Nat}:aN (l.map Pt.v) 0 ((p:Int).toNat - 0)=(l.take p).map Pt.v:=by
 unfold aN;simp[List.map_take]
theorem SC {l:List Pt} {p:Nat} {n:Int} (hn:n=((p+1:Nat):Int)):aN (l.map Pt.v) n.toNat ((l.map Pt.v).length - n.toNat)=(l.drop (p+1)).map Pt.v:=by
 subst hn
 unfold aN;rw[List.take_of_length_le (by simp)];simp[List.map_drop]
theorem ID {l:List Pt} {p:Nat}:l.take p++l.drop (p+1)=l.eraseIdx p:=(List.eraseIdx_eq_take_drop_succ l p).symm
theorem AZ {l:List Pt} {n:Nat} (hn:n<l.length) (hl:l.length< 1000000):Ev E 539 [dJ l,aD n] ⟨.own 2 ((l.eraseIdx n).map Pt.v),[]⟩:=by
 have w2:IntKind.i64.wrap ((n:Int)+1)=((n+1:Nat):Int):=(wrap64 (by omega) (by omega)).trans (by omega)
 rw[←ID]
 refine Ev.aG Ul (Um _) rfl ?_
 (conv=>whnf);repeat' ((first| intro g| refine aL.mk _ (SB) ?_| refine aL.mk _ (SC w2) ?_| refine st ?_| (first| refine b1 ?_ ?_| refine b2 ?_ ?_| refine Br.mk ?_ ?_) <;>intro hc| exact rfl) <;>conv=>whnf)
 simp only[List.nil_append,List.map_append]
end Go.AM
set_option maxRecDepth 20000
set_option maxHeartbeats 2000000
namespace Go.AM
def gT (skip:Bool) (n:Int):Nat→List Pt→List (Pt×Pt)
 | i,p::q::r=> (if skip && (decide ((i:Int)=n - 1) || decide ((i:Int)=n)) then [] else [(p,q)])++gT skip n (i+1) (q::r)
 | _,_=> []
def Ti (x:Pt×Pt):List V:=[x.1.v,x.2.v]
theorem DO (skip:Bool) (n:Int): ∀ (ps:List Pt) (i:Nat),uu skip n i (ps.map Pt.v)=(gT skip n i ps).map Ti
 | [],i=>by simp[uu,gT]
 | [p],i=>by simp[uu,gT]
 | p::q::r,i=>by
   have ih:=DO skip n (q::r) (i+1)
   simp only[List.map_cons] at ih
   simp only[List.map_cons,uu,gT,List.map_append]
   rw[ih]
   congr 1
   split<;>rfl
def gU (e n:Int):Nat→List Edge→List (Pt×Pt)
 | _,[]=> []
 | k,a::es=>gT (decide ((k:Int)=e)) n 0 a.line++gU e n (k+1) es
theorem DP (e n:Int): ∀ (es:List Edge) (k:Nat),(∀x ∈ es,x.line.length< 1000000)→y8 e n k (es.map Edge.v)=some ((gU e n k es).map Ti)
 | [],k,_=>rfl
 | a::es,k,h=>by
   have ih:=DP e n es (k+1) fun x hx=>h x (by simp[hx])
   have ha:=h a (by simp)
   have hc: (a.line.map Pt.v).length< 4611686018427387904∧(a.line.map Pt.v).all I7=true:=by
    refine⟨by simp;omega,?_⟩
    rw[List.all_eq_true]
    intro v hv
    obtain⟨p,_,rfl⟩:=List.mem_map.1 hv
    rfl
   show (if (a.line.map Pt.v).length< 4611686018427387904∧(a.line.map Pt.v).all I7=true then(y8 e n (k+1) (es.map Edge.v)).map (uu (decide ((k:Int)=e)) n 0 (a.line.map Pt.v)++ ·) else none)=_
   rw[if_pos hc,ih,DO,gU,List.map_append];rfl
def pX (m:aQ) (k n:Nat) (a b c:Pt):Bool:= !((gU k n 0 m.aH).any fun x=>eL a b c x.1 x.2) && !(m.aZ.any fun p=>Cu a b c ⟨p.x,p.y⟩)
theorem FB {m:aQ} (q:oC m):Ev E 552 [q.v,m.v] ⟨.fn 564 [.eptr m.v 0,.eptr q.v 0],[]⟩:=by
 refine Ev.aG UY (UZ _) rfl ?_
 (conv=>whnf);repeat' ((first| intro g| refine st ?_| (first| refine b1 ?_ ?_| refine b2 ?_ ?_| refine Br.mk ?_ ?_) <;>intro hc| exact rfl) <;>conv=>whnf)
theorem IE {m:aQ} (h:m.Fit) (q:oC m):E.iter 564 [.eptr m.v 0,.eptr q.v 0]=some ((gU q.k q.n 0 m.aH).map Ti):=by
 have h1:=DP (q.k:Int) (q.n:Int) m.aH 0 h.el
 have hb:=(List.getElem?_eq_some_iff.1 q.hb).1
 have:=q.hl
 have:=h.e
 show (if (m.aH.map Edge.v).length< 4611686018427387904∧(0:Int)≤(q.n:Int)∧(q.n:Int) < 4611686018427387904 then y8 (q.k:Int) (q.n:Int) 0 (m.aH.map Edge.v) else none)=_
 rw[if_pos ⟨by simp;omega,by omega,by omega⟩,h1]
theorem IF {m:aQ} (q:oC m) (p:Place):Ev E 555 [p.v,.eptr q.v 0] ⟨.bool (Cu q.a q.b q.c ⟨p.x,p.y⟩),[]⟩:=by
 refine Ev.aG U2 (U3 _) rfl ?_
 (conv=>whnf);repeat' ((first| intro g| refine ag.mk _ (Sx q.a q.b q.c ⟨p.x,p.y⟩) ?_| refine st ?_| (first| refine b1 ?_ ?_| refine b2 ?_ ?_| refine Br.mk ?_ ?_) <;>intro hc| exact rfl) <;>conv=>whnf)
theorem IG {m:aQ} (h:m.Fit) (q:oC m):Ev E 541 [q.v,m.v] ⟨.bool (pX m q.k q.n q.a q.b q.c),[]⟩:=by
 have hp:=h.p
 have hc:Ev E 554 [.lit 7 (m.aZ.map Place.v),.fn 555 [.eptr q.v 0]] ⟨.bool (m.aZ.any fun p=>Cu q.a q.b q.c ⟨p.x,p.y⟩),[]⟩:=by
   have:=Fi (l:=m.aZ) (caps:=[.eptr q.v 0]) rfl (by omega) (IF q) rfl
   rwa [oA] at this
 have hx:=IE h q
 unfold pX
 generalize (m.aZ.any fun p=>Cu q.a q.b q.c ⟨p.x,p.y⟩)=pl at*
 generalize gU q.k q.n 0 m.aH=Tj at*
 have ht: ∀d e,Ev E 553 [q.a.v,q.b.v,q.c.v,d.v,e.v] ⟨.bool (eL q.a q.b q.c d e),[]⟩:=fun d e=>Cw _ _ _ d e
 obtain⟨Z,hZ⟩: ∃Z,Z=(!(Tj.any fun x=>eL q.a q.b q.c x.1 x.2) && !pl):=⟨_,rfl⟩
 have z1: ∀ (j:Nat) x,Tj[j]? =some x→eL q.a q.b q.c x.1 x.2=true→Z=false:=fun j x hj ht=>by
   rw[hZ,List.any_eq_true.2 ⟨x,List.mem_of_getElem? hj,ht⟩];rfl
 have z0: (∀ (j:Nat) x,Tj[j]? =some x→eL q.a q.b q.c x.1 x.2=false)→Z= !pl:=fun hn=>by
   rw[hZ,List.any_eq_false.2 fun x hx=>by
     obtain⟨j,hj,rfl⟩:=List.getElem_of_mem hx
     rw[hn j _ (aE hj)];simp];rfl
 rw[←hZ]
 clear hZ
 refine Ev.aG Un (Uo _) rfl ?_
 (conv=>whnf);repeat' ((first| intro g| refine ag.mk _ (FB q) ?_| refine st ?_| (first| refine b1 ?_ ?_| refine b2 ?_ ?_| refine Br.mk ?_ ?_) <;>intro hc| exact rfl) <;>conv=>whnf)
 rename_i yY mC
 refine rT.by (Tj.map Ti) rfl hx (fun x hx=>by obtain⟨p,_,rfl⟩:=List.mem_map.1 hx;rfl) (fun (_:Unit)=> [(48,⟨yY,8,false,false,some [q.v]⟩),(64,⟨mC,4,false,false,some [m.v]⟩),(96,⟨g,1,false,false,some [.bool true]⟩)]) (fun k a=> ∀ (j:Nat) x,j<k→Tj[j]? =some x→eL q.a q.b q.c x.1 x.2=false) () (by(repeat' (first| exact True.intro| refine ai ?_| refine And.intro ?_ ?_))) (by intro j x hj;omega) ?_ ?_
 · rintro k x u Fl hP
   rw[List.getElem?_map] at Fl
   obtain⟨⟨d,e⟩,hde,rfl⟩:=Option.map_eq_some_iff.1 Fl
   have h1:=ht d e
   have sb:=z1 k _ hde
   have xj:eL q.a q.b q.c d e=false→ ∀ (j:Nat) x,j<k+1→Tj[j]? =some x→eL q.a q.b q.c x.1 x.2=false:=fun h j x hj hx=>by
     by_cases e1:j=k
     · subst e1;rw[hde] at hx;injection hx with hx;subst hx;exact h
     · exact hP j x (by omega) hx
   clear hP Fl z1 z0 hx ht
   dsimp only at sb
   cases hb:eL q.a q.b q.c d e with
   | true=>
     have hz:=sb hb
     rw[hb] at h1
     clear xj sb
     rw[hz]
     unfold Ti
     (conv=>whnf);repeat' ((first| intro g| refine ag.mk _ (h1) ?_| refine ag.mk _ (hc) ?_| refine st ?_| (first| refine b1 ?_ ?_| refine b2 ?_ ?_| refine Br.mk ?_ ?_) <;>intro hc| exact rfl) <;>conv=>whnf)
   | false=>
     have hn:=xj hb
     rw[hb] at h1
     clear xj sb
     unfold Ti
     (conv=>whnf);repeat' ((first| intro g| refine ag.mk _ (h1) ?_| refine ag.mk _ (hc) ?_| refine st ?_| (first| refine b1 ?_ ?_| refine b2 ?_ ?_| refine Br.mk ?_ ?_) <;>intro hc| exact rfl) <;>conv=>whnf)
     exact zc.mk () hn (by(repeat' (first| exact True.intro| refine ai ?_| refine And.intro ?_ ?_)))
 · rintro _ hP
   have hz:=z0 fun j x hj=>hP j x (by have:=(List.getElem?_eq_some_iff.1 hj).1;simpa using this) hj
   rw[hz]
   clear hP z1 z0 ht
   cases pl
   all_goals
     (conv=>whnf);repeat' ((first| intro g| refine ag.mk _ (hc) ?_| refine st ?_| (first| refine b1 ?_ ?_| refine b2 ?_ ?_| refine Br.mk ?_ ?_) <;>intro hc| exact rfl) <;>conv=>whnf)
end Go.AM
set_option maxRecDepth 20000
set_option maxHeartbeats 2000000
namespace Go.AM
noncomputable def FC (m:aQ) (q:oC m):Int:=
 if pW m q.e=0 then 25 else if pS q.rest=0 then(if pX m q.k q.n q.a q.b q.c=true then 0 else 22) else 11
theorem vQ {m:aQ} (q:oC m):q.rest.length< 1000000:=by
 have hb:=(List.getElem?_eq_some_iff.1 q.hb).1
 have:=q.hl
 simp[oC.rest,List.length_eraseIdx,hb];omega
theorem SD {m:aQ} (h:m.Fit) (q:oC m):Ev E 526 [m.v,vi q.e.id,aD q.n] ⟨vi (FC m q),[]⟩:=by
 have nk:=Iy h q
 have hd:=Iz h q.e
 have Bb:=DN q
 have Lj:=Is q.rest (vQ q)
 have hem:=IG h q
 have he:=q.he
 unfold FC
 generalize pX m q.k q.n q.a q.b q.c=em at*
 generalize pW m q.e=dd at*
 generalize q.rest=rs at*
 generalize pS rs=ck at*
 unfold dJ at Lj
 refine Ev.aG Gr (Gs _) rfl ?_
 by_cases h1:dd=0
 · rw[if_pos h1]
   (conv=>whnf);repeat' ((first| intro g| refine aL.mk _ (aq he rfl) ?_| refine ag.mk _ (nk) ?_| refine ag.mk _ (hd) ?_| refine st ?_| (first| refine b1 ?_ ?_| refine b2 ?_ ?_| refine Br.mk ?_ ?_) <;>intro hc| exact rfl) <;>conv=>whnf)
 rw[if_neg h1]
 by_cases h2:ck=0
 · rw[if_pos h2]
   cases em
   · (conv=>whnf);repeat' ((first| intro g| refine aL.mk _ (aq he rfl) ?_| refine ag.mk _ (nk) ?_| refine ag.mk _ (hd) ?_| refine ag.mk _ (Bb) ?_| refine ag.mk _ (Lj) ?_| refine ag.mk _ (hem) ?_| refine st ?_| (first| refine b1 ?_ ?_| refine b2 ?_ ?_| refine Br.mk ?_ ?_) <;>intro hc| exact rfl) <;>conv=>whnf)
   · (conv=>whnf);repeat' ((first| intro g| refine aL.mk _ (aq he rfl) ?_| refine ag.mk _ (nk) ?_| refine ag.mk _ (hd) ?_| refine ag.mk _ (Bb) ?_| refine ag.mk _ (Lj) ?_| refine ag.mk _ (hem) ?_| refine st ?_| (first| refine b1 ?_ ?_| refine b2 ?_ ?_| refine Br.mk ?_ ?_) <;>intro hc| exact rfl) <;>conv=>whnf)
 · rw[if_neg h2]
   (conv=>whnf);repeat' ((first| intro g| refine aL.mk _ (aq he rfl) ?_| refine ag.mk _ (nk) ?_| refine ag.mk _ (hd) ?_| refine ag.mk _ (Bb) ?_| refine ag.mk _ (Lj) ?_| refine st ?_| (first| refine b1 ?_ ?_| refine b2 ?_ ?_| refine Br.mk ?_ ?_) <;>intro hc| exact rfl) <;>conv=>whnf)
theorem IH {m:aQ} {id n x:Int} (hx:x=5∨x=1) (nk:Ev E 534 [m.v,vi id,vi n] ⟨.tuple [DM,vi x],[]⟩):Ev E 526 [m.v,vi id,vi n] ⟨vi x,[]⟩:=by
 rcases hx with rfl| rfl
 · refine Ev.aG Gr (Gs _) rfl ?_
   (conv=>whnf);repeat' ((first| intro g| refine ag.mk _ (nk) ?_| refine st ?_| (first| refine b1 ?_ ?_| refine b2 ?_ ?_| refine Br.mk ?_ ?_) <;>intro hc| exact rfl) <;>conv=>whnf)
 · refine Ev.aG Gr (Gs _) rfl ?_
   (conv=>whnf);repeat' ((first| intro g| refine ag.mk _ (nk) ?_| refine st ?_| (first| refine b1 ?_ ?_| refine b2 ?_ ?_| refine Br.mk ?_ ?_) <;>intro hc| exact rfl) <;>conv=>whnf)
end Go.AM
