/-
  Texts of the proof, joined by program: FpA. Own work.
-/
import Derived.Test.YtinmckmdbepjcaaGb
set_option linter.unusedSimpArgs false
set_option linter.unusedVariables false
set_option maxRecDepth 20000
namespace Go.AM
def aG.YD (W P:V) (m:aG):V:= .agg [.lit 4 (m.an.map Edge.v),.lit 5 (m.ah.map ar.v),W,P]
theorem aG.aam {W P:V} (hW:W.aE=true) (hP:P.aE=true) (m:aG): (m.YD W P).aE=true:=by
 simp only[aG.YD,V.aE,V.aq,Edge.cN,ar.cN,hW,hP,Bool.and_self]
set_option maxHeartbeats 2000000 in
theorem aa1 {W P:V} {m:aG} (h:m.ah.length< 1000000):Ev E 500 [m.YD W P] ⟨.mlit (b5 false m.ah m.ah.length),[]⟩:=by
 refine Ev.bU Iy (Iz _) rfl ?_
 (conv=>whnf);repeat' ((first| intro g| refine st ?_| (first| refine b1 ?_ ?_| refine b2 ?_ ?_| refine Br.mk ?_ ?_) <;>intro hc| exact rfl) <;>conv=>whnf)
 rename_i g1
 refine ba.by (fun (n:Nat)=> ⟨[(1,.ptr 32 g1 0 0),(3,.mp 112 g),(8,w8 false (m.ah.map ar.v)),(9,aF (m.ah.map ar.v).length),(10,aF n)],
     [(32,⟨g1,4,false,false,some [m.YD W P]⟩),(112,⟨g,0,false,false,some (b5 false m.ah n)⟩)]⟩) (fun n=>n≤m.ah.length) (fun n=>m.ah.length - n) 0 (by(refine⟨?_,?_⟩ <;>repeat' (first| exact True.intro| refine ai ?_| refine And.intro ?_ ?_))) (by simp) ?_
 intro n hn
 by_cases bk:n<m.ah.length
 · obtain⟨f,hf⟩: ∃f,m.ah[n]? =some f:=⟨_,aL bk⟩
   cases hq:findF (m.ah.take n) f.id with
   | none=>
     have gZ:=yw false hf hq
     (conv=>whnf);repeat' ((first| intro g| refine aH.mk _ (aC hf rfl) ?_| refine aH.mk _ (rH _ hq) ?_| refine aH.mk _ (gZ) ?_| refine st ?_| (first| refine b1 ?_ ?_| refine b2 ?_ ?_| refine Br.mk ?_ ?_) <;>intro hc| exact rfl) <;>conv=>whnf)
     exact bc.mk (n+1) (by first| omega| (dsimp only;omega)) (by omega) (by(refine⟨?_,?_⟩ <;>repeat' (first| exact True.intro| refine ai ?_| refine And.intro ?_ ?_)))
   | some i=>
     obtain⟨f',D8,_⟩:=cu hq
     have Ay:m.ah[i]? =some f':=by
      have GD:i<n:=by have:=(List.getElem?_eq_some_iff.1 D8).1;simp at this;omega
      rw[List.getElem?_take] at D8;simpa [GD] using D8
     have hs:=vX false hf (by rw[hq];simp)
     (conv=>whnf);repeat' ((first| intro g| refine aH.mk _ (aC hf rfl) ?_| refine aH.mk _ (rI _ hq Ay) ?_| refine st ?_| (first| refine b1 ?_ ?_| refine b2 ?_ ?_| refine Br.mk ?_ ?_) <;>intro hc| exact rfl) <;>conv=>whnf)
     exact bc.mk (n+1) (by first| omega| (dsimp only;omega)) (by omega) (by(refine⟨?_,?_⟩ <;>repeat' (first| exact True.intro| refine And.intro ((by(conv=>whnf);rw[hs])) ?_| refine ai ?_| refine And.intro ?_ ?_)))
 obtain rfl:n=m.ah.length:=by omega
 have hp:=jo false m.ah m.ah.length
 have ht:=m7 false m.ah m.ah.length
 have GB:=tq false m.ah m.ah.length
 (conv=>whnf);repeat' ((first| intro g| refine st ?_| (first| refine b1 ?_ ?_| refine b2 ?_ ?_| refine Br.mk ?_ ?_) <;>intro hc| exact rfl) <;>conv=>whnf)
 rw[GB]
 (conv=>whnf);repeat' ((first| intro g| refine st ?_| (first| refine b1 ?_ ?_| refine b2 ?_ ?_| refine Br.mk ?_ ?_) <;>intro hc| exact rfl) <;>conv=>whnf)
set_option maxHeartbeats 4000000 in
theorem Z1 {W P:V} {m:aG} {a b:Int} (hb:Ev E 495 [.lit 4 (m.an.map Edge.v),vi a,vi b] ⟨.own 1 ((b4 m.an a b).map vi),[]⟩) (h:findF m.ah a=none) (h2:findF m.ah b=none):Ev E 501 [m.YD W P,.mlit (b5 false m.ah m.ah.length),vi a,vi b] ⟨vi 5,[]⟩:=by
 refine Ev.bU fB (fC _) rfl ?_
 (conv=>whnf);repeat' ((first| intro g| refine aH.mk _ (kc h) ?_| refine aH.mk _ (kc h2) ?_| refine st ?_| (first| refine b1 ?_ ?_| refine b2 ?_ ?_| refine Br.mk ?_ ?_) <;>intro hc| exact rfl) <;>conv=>whnf)
set_option maxHeartbeats 4000000 in
theorem Z2 {W P:V} {m:aG} {a b:Int} (hb:Ev E 495 [.lit 4 (m.an.map Edge.v),vi a,vi b] ⟨.own 1 ((b4 m.an a b).map vi),[]⟩) {j:Nat} {g:ar} (h:findF m.ah a=none) (h2:findF m.ah b=some j) (h3:m.ah[j]? =some g):Ev E 501 [m.YD W P,.mlit (b5 false m.ah m.ah.length),vi a,vi b] ⟨vi 5,[]⟩:=by
 refine Ev.bU fB (fC _) rfl ?_
 (conv=>whnf);repeat' ((first| intro g| refine aH.mk _ (kc h) ?_| refine aH.mk _ (bO h2 h3) ?_| refine st ?_| (first| refine b1 ?_ ?_| refine b2 ?_ ?_| refine Br.mk ?_ ?_) <;>intro hc| exact rfl) <;>conv=>whnf)
set_option maxHeartbeats 4000000 in
theorem Z3 {W P:V} {m:aG} {a b:Int} (hb:Ev E 495 [.lit 4 (m.an.map Edge.v),vi a,vi b] ⟨.own 1 ((b4 m.an a b).map vi),[]⟩) {i:Nat} {f:ar} (h:findF m.ah a=some i) (h1:m.ah[i]? =some f) (h2:findF m.ah b=none):Ev E 501 [m.YD W P,.mlit (b5 false m.ah m.ah.length),vi a,vi b] ⟨vi 5,[]⟩:=by
 refine Ev.bU fB (fC _) rfl ?_
 (conv=>whnf);repeat' ((first| intro g| refine aH.mk _ (bO h h1) ?_| refine aH.mk _ (kc h2) ?_| refine st ?_| (first| refine b1 ?_ ?_| refine b2 ?_ ?_| refine Br.mk ?_ ?_) <;>intro hc| exact rfl) <;>conv=>whnf)
set_option maxHeartbeats 4000000 in
theorem aax {W P:V} {m:aG} {a b:Int} (hb:Ev E 495 [.lit 4 (m.an.map Edge.v),vi a,vi b] ⟨.own 1 ((b4 m.an a b).map vi),[]⟩) {i:Nat} {f:ar} (h:findF m.ah a=some i) (h1:m.ah[i]? =some f) (h2:a=b):Ev E 501 [m.YD W P,.mlit (b5 false m.ah m.ah.length),vi a,vi b] ⟨vi 1,[]⟩:=by
 subst h2
 refine Ev.bU fB (fC _) rfl ?_
 (conv=>whnf);repeat' ((first| intro g| refine aH.mk _ (bO h h1) ?_| refine st ?_| (first| refine b1 ?_ ?_| refine b2 ?_ ?_| refine Br.mk ?_ ?_) <;>intro hc| exact rfl) <;>conv=>whnf)
set_option maxHeartbeats 4000000 in
theorem aad {W P:V} {m:aG} {a b:Int} (hb:Ev E 495 [.lit 4 (m.an.map Edge.v),vi a,vi b] ⟨.own 1 ((b4 m.an a b).map vi),[]⟩) {i j:Nat} {f g:ar} (h:findF m.ah a=some i) (h1:m.ah[i]? =some f) (h2:findF m.ah b=some j) (h3:m.ah[j]? =some g) (h4:a≠b) (h5:f.bg≠g.bg):Ev E 501 [m.YD W P,.mlit (b5 false m.ah m.ah.length),vi a,vi b] ⟨vi 25,[]⟩:=by
 refine Ev.bU fB (fC _) rfl ?_
 (conv=>whnf);repeat' ((first| intro g| refine aH.mk _ (bO h h1) ?_| refine aH.mk _ (bO h2 h3) ?_| refine st ?_| (first| refine b1 ?_ ?_| refine b2 ?_ ?_| refine Br.mk ?_ ?_) <;>intro hc| exact rfl) <;>conv=>whnf)
set_option maxHeartbeats 4000000 in
theorem Z4 {W P:V} {m:aG} {a b:Int} (hb:Ev E 495 [.lit 4 (m.an.map Edge.v),vi a,vi b] ⟨.own 1 ((b4 m.an a b).map vi),[]⟩) {i j:Nat} {f g:ar} (h:findF m.ah a=some i) (h1:m.ah[i]? =some f) (h2:findF m.ah b=some j) (h3:m.ah[j]? =some g) (h4:a≠b) (h5:f.bg=g.bg) (h6:f.bg< 1):Ev E 501 [m.YD W P,.mlit (b5 false m.ah m.ah.length),vi a,vi b] ⟨vi 25,[]⟩:=by
 refine Ev.bU fB (fC _) rfl ?_
 (conv=>whnf);repeat' ((first| intro g| refine aH.mk _ (bO h h1) ?_| refine aH.mk _ (bO h2 h3) ?_| refine st ?_| (first| refine b1 ?_ ?_| refine b2 ?_ ?_| refine Br.mk ?_ ?_) <;>intro hc| exact rfl) <;>conv=>whnf)
set_option maxHeartbeats 4000000 in
theorem aae {W P:V} {m:aG} {a b:Int} (hb:Ev E 495 [.lit 4 (m.an.map Edge.v),vi a,vi b] ⟨.own 1 ((b4 m.an a b).map vi),[]⟩) {i j:Nat} {f g:ar} (h:findF m.ah a=some i) (h1:m.ah[i]? =some f) (h2:findF m.ah b=some j) (h3:m.ah[j]? =some g) (h4:a≠b) (h5:f.bg=g.bg) (h6: ¬f.bg< 1) (h7:m.an.any (b9 a b)=false):Ev E 501 [m.YD W P,.mlit (b5 false m.ah m.ah.length),vi a,vi b] ⟨vi 13,[]⟩:=by
 have hz:=oJ h7
 clear h7
 refine Ev.bU fB (fC _) rfl ?_
 (conv=>whnf);repeat' ((first| intro g| refine aH.mk _ (bO h h1) ?_| refine aH.mk _ (bO h2 h3) ?_| refine ag.mk _ (hb) ?_| refine st ?_| (first| refine b1 ?_ ?_| refine b2 ?_ ?_| refine Br.mk ?_ ?_) <;>intro hc| exact rfl) <;>conv=>whnf)
set_option maxHeartbeats 4000000 in
theorem aaf {W P:V} {m:aG} {a b:Int} (hb:Ev E 495 [.lit 4 (m.an.map Edge.v),vi a,vi b] ⟨.own 1 ((b4 m.an a b).map vi),[]⟩) {i j:Nat} {f g:ar} (h:findF m.ah a=some i) (h1:m.ah[i]? =some f) (h2:findF m.ah b=some j) (h3:m.ah[j]? =some g) (h4:a≠b) (h5:f.bg=g.bg) (h6: ¬f.bg< 1) (h7:m.an.any (b9 a b)=true) (h8:f.name≠[]) (h9:g.name≠[]) (tk:f.name≠g.name):Ev E 501 [m.YD W P,.mlit (b5 false m.ah m.ah.length),vi a,vi b] ⟨vi 24,[]⟩:=by
 have hz:=dV h7
 clear h7
 refine Ev.bU fB (fC _) rfl ?_
 (conv=>whnf);repeat' ((first| intro g| refine aH.mk _ (bO h h1) ?_| refine aH.mk _ (bO h2 h3) ?_| refine ag.mk _ (hb) ?_| refine st ?_| (first| refine b1 ?_ ?_| refine b2 ?_ ?_| refine Br.mk ?_ ?_) <;>intro hc| exact rfl) <;>conv=>whnf)
set_option maxHeartbeats 4000000 in
theorem aay {W P:V} {m:aG} {a b:Int} (hb:Ev E 495 [.lit 4 (m.an.map Edge.v),vi a,vi b] ⟨.own 1 ((b4 m.an a b).map vi),[]⟩) {i j:Nat} {f g:ar} (h:findF m.ah a=some i) (h1:m.ah[i]? =some f) (h2:findF m.ah b=some j) (h3:m.ah[j]? =some g) (h4:a≠b) (h5:f.bg=g.bg) (h6: ¬f.bg< 1) (h7:m.an.any (b9 a b)=true) (h8:f.name=[]):Ev E 501 [m.YD W P,.mlit (b5 false m.ah m.ah.length),vi a,vi b] ⟨vi 0,[]⟩:=by
 have hz:=dV h7
 clear h7
 refine Ev.bU fB (fC _) rfl ?_
 (conv=>whnf);repeat' ((first| intro g| refine aH.mk _ (bO h h1) ?_| refine aH.mk _ (bO h2 h3) ?_| refine ag.mk _ (hb) ?_| refine st ?_| (first| refine b1 ?_ ?_| refine b2 ?_ ?_| refine Br.mk ?_ ?_) <;>intro hc| exact rfl) <;>conv=>whnf)
set_option maxHeartbeats 4000000 in
theorem aaz {W P:V} {m:aG} {a b:Int} (hb:Ev E 495 [.lit 4 (m.an.map Edge.v),vi a,vi b] ⟨.own 1 ((b4 m.an a b).map vi),[]⟩) {i j:Nat} {f g:ar} (h:findF m.ah a=some i) (h1:m.ah[i]? =some f) (h2:findF m.ah b=some j) (h3:m.ah[j]? =some g) (h4:a≠b) (h5:f.bg=g.bg) (h6: ¬f.bg< 1) (h7:m.an.any (b9 a b)=true) (h8:f.name≠[]) (h9:g.name=[]):Ev E 501 [m.YD W P,.mlit (b5 false m.ah m.ah.length),vi a,vi b] ⟨vi 0,[]⟩:=by
 have hz:=dV h7
 clear h7
 refine Ev.bU fB (fC _) rfl ?_
 (conv=>whnf);repeat' ((first| intro g| refine aH.mk _ (bO h h1) ?_| refine aH.mk _ (bO h2 h3) ?_| refine ag.mk _ (hb) ?_| refine st ?_| (first| refine b1 ?_ ?_| refine b2 ?_ ?_| refine Br.mk ?_ ?_) <;>intro hc| exact rfl) <;>conv=>whnf)
set_option maxHeartbeats 4000000 in
theorem aaA {W P:V} {m:aG} {a b:Int} (hb:Ev E 495 [.lit 4 (m.an.map Edge.v),vi a,vi b] ⟨.own 1 ((b4 m.an a b).map vi),[]⟩) {i j:Nat} {f g:ar} (h:findF m.ah a=some i) (h1:m.ah[i]? =some f) (h2:findF m.ah b=some j) (h3:m.ah[j]? =some g) (h4:a≠b) (h5:f.bg=g.bg) (h6: ¬f.bg< 1) (h7:m.an.any (b9 a b)=true) (h8:f.name≠[]) (h9:g.name≠[]) (tk:f.name=g.name):Ev E 501 [m.YD W P,.mlit (b5 false m.ah m.ah.length),vi a,vi b] ⟨vi 0,[]⟩:=by
 have hz:=dV h7
 clear h7
 refine Ev.bU fB (fC _) rfl ?_
 (conv=>whnf);repeat' ((first| intro g| refine aH.mk _ (bO h h1) ?_| refine aH.mk _ (bO h2 h3) ?_| refine ag.mk _ (hb) ?_| refine st ?_| (first| refine b1 ?_ ?_| refine b2 ?_ ?_| refine Br.mk ?_ ?_) <;>intro hc| exact rfl) <;>conv=>whnf)
theorem aco {W P:V} {m:aG} (hs:EP m) (a b:Int):Ev E 501 [m.YD W P,.mlit (b5 false m.ah m.ah.length),vi a,vi b] ⟨vi (jX m a b),[]⟩:=by
 have hb:=Am hs.1 a b
 generalize hr:jX m a b=r
 have hc:=px hr
 clear hr hs
 cases hc with
 | BC h h2=>exact Z1 hb h h2
 | BD h h2 h3=>exact Z2 hb h h2 h3
 | BE h h1 h2=>exact Z3 hb h h1 h2
 | arg h h1 h2=>exact aax hb h h1 h2
 | bg h h1 h2 h3 h4 h5=>exact aad hb h h1 h2 h3 h4 h5
 | BF h h1 h2 h3 h4 h5 h6=>exact Z4 hb h h1 h2 h3 h4 h5 h6
 | Hs h h1 h2 h3 h4 h5 h6 h7=>exact aae hb h h1 h2 h3 h4 h5 h6 h7
 | Ht h h1 h2 h3 h4 h5 h6 h7 h8 h9 tk=>exact aaf hb h h1 h2 h3 h4 h5 h6 h7 h8 h9 tk
 | Pk h h1 h2 h3 h4 h5 h6 h7 h8=>exact aay hb h h1 h2 h3 h4 h5 h6 h7 h8
 | Pl h h1 h2 h3 h4 h5 h6 h7 h8 h9=>exact aaz hb h h1 h2 h3 h4 h5 h6 h7 h8 h9
 | Pm h h1 h2 h3 h4 h5 h6 h7 h8 h9 tk=>exact aaA hb h h1 h2 h3 h4 h5 h6 h7 h8 h9 tk
end Go.AM
