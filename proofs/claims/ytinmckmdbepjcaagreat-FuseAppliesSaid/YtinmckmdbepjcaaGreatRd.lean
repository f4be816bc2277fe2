/-
  Texts of the proof, joined by program: FuR, FuS. Own work.
-/
import Derived.Test.YtinmckmdbepjcaaGreatRb
import Derived.Test.YtinmckmdbepjcaaGreatRc
set_option linter.unusedSimpArgs false
set_option linter.unusedVariables false
set_option maxRecDepth 20000
namespace Go.AM
theorem Gm {fs:List ar} {a b:Int} {i j:Nat} (py:a≠b) (hi:findF fs a=some i) (hj:findF fs b=some j):i≠j:=fun h=>by
 obtain⟨f,h1,h2,_⟩:=cu hi
 obtain⟨g,h3,h4,_⟩:=cu hj
 subst h
 rw[h1] at h3;injection h3 with h3;subst h3
 exact py (h2.symm.trans h4)
theorem D1 {m:aG} (hs:rJ m) {a b:Int} (hc:jX m a b=0) {i j:Nat} {f y:ar} (hi:findF m.ah a=some i) (yu:m.ah[i]? =some f) (hj:findF m.ah b=some j) (ui:m.ah[j]? =some y) (vr:i≠j) (py:a≠b):
  ∃res,Ev E 486 [m.v,vi a,vi b] res∧pz m (bA m.an a b m.an.length) (aR m.ah i j f m.ah.length) res:=by
 obtain⟨res,w9,e0,w0,MO,Sm,rfl⟩:=By (m:=m) hs.e hs.w hs.f hs.p hs.el hs.wl
 rcases MO with⟨rfl,MO⟩ | rfl<;>rcases Sm with⟨rfl,Sm⟩ | rfl
 · exact DX hs hc hi yu hj ui vr py MO Sm w9
 · exact DY hs hc hi yu hj ui vr py MO w9
 · exact DZ hs hc hi yu hj ui vr py Sm w9
 · exact D0 hs hc hi yu hj ui vr py w9
def Jg (M:aG) (c:Int) (res:fK):Prop:= ∃v,res=⟨v,[]⟩∧ ∀ (r:Nat) (k:V→bB),da false r [] v k=k (.tuple [M.v,vi c])
def QJ (m:aG) (a b:Int):Prop:= ∃ (M:aG) (c:Int) (r1 r2:fK),Ev E 485 [m.v,vi a,vi b] r1∧Ev E 486 [m.v,vi a,vi b] r2∧Jg M c r1∧Jg M c r2∧
 M.an.length≤m.an.length∧M.ah.length≤m.ah.length∧M.ways.length≤m.ways.length∧M.aw.length≤m.aw.length∧(∀e ∈ M.an,e.line.length< 1000)∧ ∀w ∈ M.ways,w.line.length< 1000
theorem xL {m:aG} (hs:rJ m) {a b:Int} (hc:jX m a b=0) {i j:Nat} {f y:ar} (hi:findF m.ah a=some i) (yu:m.ah[i]? =some f) (hj:findF m.ah b=some j) (ui:m.ah[j]? =some y) (py:a≠b):QJ m a b:=by
 have vr:=Gm py hi hj
 obtain⟨r2,h2,h3⟩:=D1 hs hc hi yu hj ui vr py
 refine⟨⟨bA m.an a b m.an.length,aR m.ah i j f m.ah.length,m.ways,m.aw⟩,0,_,r2,CZ hs a b hc hi yu hj ui vr py,h2,Fg ..,h3,fh ..,bp ..,Nat.le_refl _,Nat.le_refl _,fun e he=> ?_,hs.wl⟩
 obtain⟨e',h1,h2⟩:=lM he
 rw[h2];exact hs.el e' h1
theorem Bj {m:aG} (hs:rJ m) (a b:Int):QJ m a b:=by
 by_cases hc:jX m a b=0
 · cases px hc with
   | Pk h h1 h2 h3 h4=>exact xL hs hc h h1 h2 h3 h4
   | Pl h h1 h2 h3 h4=>exact xL hs hc h h1 h2 h3 h4
   | Pm h h1 h2 h3 h4=>exact xL hs hc h h1 h2 h3 h4
 · exact⟨aG.zero,jX m a b,_,_,As hs a b hc,AJ hs a b hc,⟨_,rfl,fun _ _=>rfl⟩,⟨_,rfl,fun _ _=>rfl⟩,Nat.zero_le _,Nat.zero_le _,Nat.zero_le _,Nat.zero_le _,fun e he=>by simp[aG.zero] at he,fun e he=>by simp[aG.zero] at he⟩
end Go.AM
set_option maxRecDepth 20000
namespace Go.AM
def zT (p:Int×Int):V:= .agg [vi p.1,vi p.2]
theorem wM (l:List (Int×Int)):V.aq (l.map zT)=true:=AM.cN (fun _=>rfl) l
set_option maxHeartbeats 4000000 in
theorem Gn {m:aG} (hf:m.ah.length< 1000000) (p:Int×Int): ∃res,Ev E 484 [m.v,zT p] res∧ ∃L:List (Int×Int),L.length≤37∧res=⟨.own 2 (L.map zT),[]⟩:=by
 refine Ev.cQ NS (NT _) rfl ?_
 (conv=>whnf);repeat' ((first| intro g| refine st ?_| (first| refine b1 ?_ ?_| refine b2 ?_ ?_| refine Br.mk ?_ ?_) <;>intro hc| exact rfl) <;>conv=>whnf)
 rename_i g2 g3 _ _
 refine ba.by (fun ((k,L,g):Nat×List (Int×Int) ×Nat)=> ⟨[(2,.ptr 48 g2 0 0),(5,.sl 97 g 0 L.length),(6,aF k)],[(48,⟨g2,4,false,false,some [m.v]⟩),(97,⟨g,2,true,false,some (L.map zT)⟩)]⟩)
   (fun (k,L,_)=>k≤6∧k≤m.ah.length∧L.length≤1+6*k) (fun (k,_,_)=>6 - k) (0,[p],g) ?_ ⟨by simp,by simp,by simp⟩ ?_
 · (refine⟨?_,?_⟩ <;>repeat' (first| exact True.intro| refine And.intro ((by(conv=>whnf);first| rfl| simp)) ?_| refine ai ?_| refine And.intro ?_ ?_))
 rintro⟨k,L,g⟩ ⟨XA,MH,hL⟩
 try dsimp only at XA MH hL
 by_cases h1:k<m.ah.length
 · by_cases h2:k< 6
   · obtain⟨x,hx⟩: ∃x,m.ah[k]? =some x:=⟨_,aL h1⟩
     (conv=>whnf);repeat' ((first| intro g| refine st ?_| (first| refine b1 ?_ ?_| refine b2 ?_ ?_| refine Br.mk ?_ ?_) <;>intro hc| exact rfl) <;>conv=>whnf)
     refine ba.by (fun ((i,L,g):Nat×List (Int×Int) ×Nat)=> ⟨[(2,.ptr 48 g2 0 0),(5,.sl 97 g 0 L.length),(6,aF k),(7,aF i)],[(48,⟨g2,4,false,false,some [m.v]⟩),(97,⟨g,2,true,false,some (L.map zT)⟩)]⟩)
       (fun (i,L,_)=>i≤6∧i≤m.ah.length∧L.length≤1+6*k+i) (fun (i,_,_)=>6 - i) (0,L,g) (by(refine⟨?_,?_⟩ <;>repeat' (first| exact True.intro| refine ai ?_| refine And.intro ?_ ?_))) ⟨by simp,by simp,by omega⟩ ?_
     rintro⟨i,L,g⟩ ⟨XB,GD,hL⟩
     try dsimp only at XB GD hL
     by_cases h3:i<m.ah.length
     · by_cases h4:i< 6
       · obtain⟨y,hy⟩: ∃x,m.ah[i]? =some x:=⟨_,aL h3⟩
         (conv=>whnf);repeat' ((first| intro g| refine aH.mk _ (aC hx rfl) ?_| refine aH.mk _ (aC hy rfl) ?_| refine st ?_| (first| refine b1 ?_ ?_| refine b2 ?_ ?_| refine Br.mk ?_ ?_) <;>intro hc| exact rfl) <;>conv=>whnf)
         exact bc.mk (i+1,L++[(x.id,y.id)],g) (by first| omega| (dsimp only;omega)) ⟨by omega,by omega,by simp;omega⟩ (by(refine⟨?_,?_⟩ <;>repeat' (first| exact True.intro| refine ai ?_| refine And.intro ?_ ?_)))
       · (conv=>whnf);repeat' ((first| intro g| refine st ?_| (first| refine b1 ?_ ?_| refine b2 ?_ ?_| refine Br.mk ?_ ?_) <;>intro hc| exact rfl) <;>conv=>whnf)
         exact bc.mk (k+1,L,g) (by first| omega| (dsimp only;omega)) ⟨by omega,by omega,by omega⟩ (by(refine⟨?_,?_⟩ <;>repeat' (first| exact True.intro| refine ai ?_| refine And.intro ?_ ?_)))
     · (conv=>whnf);repeat' ((first| intro g| refine st ?_| (first| refine b1 ?_ ?_| refine b2 ?_ ?_| refine Br.mk ?_ ?_) <;>intro hc| exact rfl) <;>conv=>whnf)
       exact bc.mk (k+1,L,g) (by first| omega| (dsimp only;omega)) ⟨by omega,by omega,by omega⟩ (by(refine⟨?_,?_⟩ <;>repeat' (first| exact True.intro| refine ai ?_| refine And.intro ?_ ?_)))
   · have hp:=wM L
     (conv=>whnf);repeat' ((first| intro g| refine aH.mk _ (bz (by first| (simp;done) | fail)) ?_| refine st ?_| (first| refine b1 ?_ ?_| refine b2 ?_ ?_| refine Br.mk ?_ ?_) <;>intro hc| exact rfl) <;>conv=>whnf)
     exact⟨L,by omega,rfl⟩
 · have hp:=wM L
   (conv=>whnf);repeat' ((first| intro g| refine aH.mk _ (bz (by first| (simp;done) | fail)) ?_| refine st ?_| (first| refine b1 ?_ ?_| refine b2 ?_ ?_| refine Br.mk ?_ ?_) <;>intro hc| exact rfl) <;>conv=>whnf)
   exact⟨L,by omega,rfl⟩
end Go.AM
