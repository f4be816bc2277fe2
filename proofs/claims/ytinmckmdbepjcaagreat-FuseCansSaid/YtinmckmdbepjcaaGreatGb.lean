/-
  Texts of the proof, joined by program: FuH. Own work.
-/
import Derived.Test.YtinmckmdbepjcaaGreatGa
set_option linter.unusedSimpArgs false
set_option linter.unusedVariables false
set_option maxRecDepth 20000
namespace Go.AM
theorem aG.ug (k:Bool) (m:aG): (m.kv k).aE=true:=by
 cases k<;>simp only[aG.kv,w8,V.aE,V.aq,Edge.cN,ar.cN,Way.cN,Place.cN,Bool.and_self]
theorem nV {m:aG} (hl:m.ah.length< 1000000) {id:Int} (h:findF m.ah id=none):Ev E 503 [m.v,vi id] ⟨.tuple [ar.zero.v,.bool false],[]⟩:=by
 have:=BG hl id
 rw[h] at this
 exact this
theorem cj {m:aG} (hl:m.ah.length< 1000000) {id:Int} {i:Nat} {f:ar} (h:findF m.ah id=some i) (hf:m.ah[i]? =some f):Ev E 503 [m.v,vi id] ⟨.tuple [f.v,.bool true],[]⟩:=by
 have:=BG hl id
 rw[h] at this
 have vb:m.ah.getD i ar.zero=f:=by simp[List.getD_eq_getElem?_getD,hf]
 simp only[vb] at this
 exact this
theorem vn {es:List Edge} {a b:Int} (h:es.any (b9 a b)=false): ((dH es a b).map vi).length=0:=by
 rw[(qu es a b).2 h];rfl
theorem je {es:List Edge} {a b:Int} (h:es.any (b9 a b)=true): ¬ ((dH es a b).map vi).length=0:=by
 rw[List.length_map,List.length_eq_zero_iff,qu,h];simp
set_option maxHeartbeats 4000000 in
theorem An {m:aG} {a b:Int} (hl:m.ah.length< 1000000) (hb:Ev E 504 [.lit 4 (m.an.map Edge.v),vi a,vi b] ⟨.lit 1 ((dH m.an a b).map vi),[]⟩) (h:findF m.ah a=none) (h2:findF m.ah b=none):Ev E 488 [m.v,vi a,vi b] ⟨vi 5,[]⟩:=by
 have q1:=nV hl h
 have q2:=nV hl h2
 refine Ev.bU mX (mY _) rfl ?_
 (conv=>whnf);repeat' ((first| intro g| refine ag.mk _ (q1) ?_| refine ag.mk _ (q2) ?_| refine st ?_| (first| refine b1 ?_ ?_| refine b2 ?_ ?_| refine Br.mk ?_ ?_) <;>intro hc| exact rfl) <;>conv=>whnf)
set_option maxHeartbeats 4000000 in
theorem Ao {m:aG} {a b:Int} (hl:m.ah.length< 1000000) (hb:Ev E 504 [.lit 4 (m.an.map Edge.v),vi a,vi b] ⟨.lit 1 ((dH m.an a b).map vi),[]⟩) {j:Nat} {g:ar} (h:findF m.ah a=none) (h2:findF m.ah b=some j) (h3:m.ah[j]? =some g):Ev E 488 [m.v,vi a,vi b] ⟨vi 5,[]⟩:=by
 have q1:=nV hl h
 have q2:=cj hl h2 h3
 refine Ev.bU mX (mY _) rfl ?_
 (conv=>whnf);repeat' ((first| intro g| refine ag.mk _ (q1) ?_| refine ag.mk _ (q2) ?_| refine st ?_| (first| refine b1 ?_ ?_| refine b2 ?_ ?_| refine Br.mk ?_ ?_) <;>intro hc| exact rfl) <;>conv=>whnf)
set_option maxHeartbeats 4000000 in
theorem Ap {m:aG} {a b:Int} (hl:m.ah.length< 1000000) (hb:Ev E 504 [.lit 4 (m.an.map Edge.v),vi a,vi b] ⟨.lit 1 ((dH m.an a b).map vi),[]⟩) {i:Nat} {f:ar} (h:findF m.ah a=some i) (h1:m.ah[i]? =some f) (h2:findF m.ah b=none):Ev E 488 [m.v,vi a,vi b] ⟨vi 5,[]⟩:=by
 have q1:=cj hl h h1
 have q2:=nV hl h2
 refine Ev.bU mX (mY _) rfl ?_
 (conv=>whnf);repeat' ((first| intro g| refine ag.mk _ (q1) ?_| refine ag.mk _ (q2) ?_| refine st ?_| (first| refine b1 ?_ ?_| refine b2 ?_ ?_| refine Br.mk ?_ ?_) <;>intro hc| exact rfl) <;>conv=>whnf)
set_option maxHeartbeats 4000000 in
theorem ES {m:aG} {a b:Int} (hl:m.ah.length< 1000000) (hb:Ev E 504 [.lit 4 (m.an.map Edge.v),vi a,vi b] ⟨.lit 1 ((dH m.an a b).map vi),[]⟩) {i:Nat} {f:ar} (h:findF m.ah a=some i) (h1:m.ah[i]? =some f) (h2:a=b):Ev E 488 [m.v,vi a,vi b] ⟨vi 1,[]⟩:=by
 subst h2
 have q1:=cj hl h h1
 have q2:=q1
 refine Ev.bU mX (mY _) rfl ?_
 (conv=>whnf);repeat' ((first| intro g| refine ag.mk _ (q1) ?_| refine ag.mk _ (q2) ?_| refine st ?_| (first| refine b1 ?_ ?_| refine b2 ?_ ?_| refine Br.mk ?_ ?_) <;>intro hc| exact rfl) <;>conv=>whnf)
set_option maxHeartbeats 4000000 in
theorem CW {m:aG} {a b:Int} (hl:m.ah.length< 1000000) (hb:Ev E 504 [.lit 4 (m.an.map Edge.v),vi a,vi b] ⟨.lit 1 ((dH m.an a b).map vi),[]⟩) {i j:Nat} {f g:ar} (h:findF m.ah a=some i) (h1:m.ah[i]? =some f) (h2:findF m.ah b=some j) (h3:m.ah[j]? =some g) (h4:a≠b) (h5:f.bg≠g.bg):Ev E 488 [m.v,vi a,vi b] ⟨vi 25,[]⟩:=by
 have q1:=cj hl h h1
 have q2:=cj hl h2 h3
 refine Ev.bU mX (mY _) rfl ?_
 (conv=>whnf);repeat' ((first| intro g| refine ag.mk _ (q1) ?_| refine ag.mk _ (q2) ?_| refine st ?_| (first| refine b1 ?_ ?_| refine b2 ?_ ?_| refine Br.mk ?_ ?_) <;>intro hc| exact rfl) <;>conv=>whnf)
set_option maxHeartbeats 4000000 in
theorem Aq {m:aG} {a b:Int} (hl:m.ah.length< 1000000) (hb:Ev E 504 [.lit 4 (m.an.map Edge.v),vi a,vi b] ⟨.lit 1 ((dH m.an a b).map vi),[]⟩) {i j:Nat} {f g:ar} (h:findF m.ah a=some i) (h1:m.ah[i]? =some f) (h2:findF m.ah b=some j) (h3:m.ah[j]? =some g) (h4:a≠b) (h5:f.bg=g.bg) (h6:f.bg< 1):Ev E 488 [m.v,vi a,vi b] ⟨vi 25,[]⟩:=by
 have q1:=cj hl h h1
 have q2:=cj hl h2 h3
 refine Ev.bU mX (mY _) rfl ?_
 (conv=>whnf);repeat' ((first| intro g| refine ag.mk _ (q1) ?_| refine ag.mk _ (q2) ?_| refine st ?_| (first| refine b1 ?_ ?_| refine b2 ?_ ?_| refine Br.mk ?_ ?_) <;>intro hc| exact rfl) <;>conv=>whnf)
set_option maxHeartbeats 4000000 in
theorem CX {m:aG} {a b:Int} (hl:m.ah.length< 1000000) (hb:Ev E 504 [.lit 4 (m.an.map Edge.v),vi a,vi b] ⟨.lit 1 ((dH m.an a b).map vi),[]⟩) {i j:Nat} {f g:ar} (h:findF m.ah a=some i) (h1:m.ah[i]? =some f) (h2:findF m.ah b=some j) (h3:m.ah[j]? =some g) (h4:a≠b) (h5:f.bg=g.bg) (h6: ¬f.bg< 1) (h7:m.an.any (b9 a b)=false):Ev E 488 [m.v,vi a,vi b] ⟨vi 13,[]⟩:=by
 have hz:=vn h7
 clear h7
 have q1:=cj hl h h1
 have q2:=cj hl h2 h3
 refine Ev.bU mX (mY _) rfl ?_
 (conv=>whnf);repeat' ((first| intro g| refine ag.mk _ (hb) ?_| refine ag.mk _ (q1) ?_| refine ag.mk _ (q2) ?_| refine st ?_| (first| refine b1 ?_ ?_| refine b2 ?_ ?_| refine Br.mk ?_ ?_) <;>intro hc| exact rfl) <;>conv=>whnf)
set_option maxHeartbeats 4000000 in
theorem CY {m:aG} {a b:Int} (hl:m.ah.length< 1000000) (hb:Ev E 504 [.lit 4 (m.an.map Edge.v),vi a,vi b] ⟨.lit 1 ((dH m.an a b).map vi),[]⟩) {i j:Nat} {f g:ar} (h:findF m.ah a=some i) (h1:m.ah[i]? =some f) (h2:findF m.ah b=some j) (h3:m.ah[j]? =some g) (h4:a≠b) (h5:f.bg=g.bg) (h6: ¬f.bg< 1) (h7:m.an.any (b9 a b)=true) (h8:f.name≠[]) (h9:g.name≠[]) (tk:f.name≠g.name):Ev E 488 [m.v,vi a,vi b] ⟨vi 24,[]⟩:=by
 have hz:=je h7
 clear h7
 have q1:=cj hl h h1
 have q2:=cj hl h2 h3
 refine Ev.bU mX (mY _) rfl ?_
 (conv=>whnf);repeat' ((first| intro g| refine ag.mk _ (hb) ?_| refine ag.mk _ (q1) ?_| refine ag.mk _ (q2) ?_| refine st ?_| (first| refine b1 ?_ ?_| refine b2 ?_ ?_| refine Br.mk ?_ ?_) <;>intro hc| exact rfl) <;>conv=>whnf)
set_option maxHeartbeats 4000000 in
theorem ET {m:aG} {a b:Int} (hl:m.ah.length< 1000000) (hb:Ev E 504 [.lit 4 (m.an.map Edge.v),vi a,vi b] ⟨.lit 1 ((dH m.an a b).map vi),[]⟩) {i j:Nat} {f g:ar} (h:findF m.ah a=some i) (h1:m.ah[i]? =some f) (h2:findF m.ah b=some j) (h3:m.ah[j]? =some g) (h4:a≠b) (h5:f.bg=g.bg) (h6: ¬f.bg< 1) (h7:m.an.any (b9 a b)=true) (h8:f.name=[]):Ev E 488 [m.v,vi a,vi b] ⟨vi 0,[]⟩:=by
 have hz:=je h7
 clear h7
 have q1:=cj hl h h1
 have q2:=cj hl h2 h3
 refine Ev.bU mX (mY _) rfl ?_
 (conv=>whnf);repeat' ((first| intro g| refine ag.mk _ (hb) ?_| refine ag.mk _ (q1) ?_| refine ag.mk _ (q2) ?_| refine st ?_| (first| refine b1 ?_ ?_| refine b2 ?_ ?_| refine Br.mk ?_ ?_) <;>intro hc| exact rfl) <;>conv=>whnf)
set_option maxHeartbeats 4000000 in
theorem EU {m:aG} {a b:Int} (hl:m.ah.length< 1000000) (hb:Ev E 504 [.lit 4 (m.an.map Edge.v),vi a,vi b] ⟨.lit 1 ((dH m.an a b).map vi),[]⟩) {i j:Nat} {f g:ar} (h:findF m.ah a=some i) (h1:m.ah[i]? =some f) (h2:findF m.ah b=some j) (h3:m.ah[j]? =some g) (h4:a≠b) (h5:f.bg=g.bg) (h6: ¬f.bg< 1) (h7:m.an.any (b9 a b)=true) (h8:f.name≠[]) (h9:g.name=[]):Ev E 488 [m.v,vi a,vi b] ⟨vi 0,[]⟩:=by
 have hz:=je h7
 clear h7
 have q1:=cj hl h h1
 have q2:=cj hl h2 h3
 refine Ev.bU mX (mY _) rfl ?_
 (conv=>whnf);repeat' ((first| intro g| refine ag.mk _ (hb) ?_| refine ag.mk _ (q1) ?_| refine ag.mk _ (q2) ?_| refine st ?_| (first| refine b1 ?_ ?_| refine b2 ?_ ?_| refine Br.mk ?_ ?_) <;>intro hc| exact rfl) <;>conv=>whnf)
set_option maxHeartbeats 4000000 in
theorem EV {m:aG} {a b:Int} (hl:m.ah.length< 1000000) (hb:Ev E 504 [.lit 4 (m.an.map Edge.v),vi a,vi b] ⟨.lit 1 ((dH m.an a b).map vi),[]⟩) {i j:Nat} {f g:ar} (h:findF m.ah a=some i) (h1:m.ah[i]? =some f) (h2:findF m.ah b=some j) (h3:m.ah[j]? =some g) (h4:a≠b) (h5:f.bg=g.bg) (h6: ¬f.bg< 1) (h7:m.an.any (b9 a b)=true) (h8:f.name≠[]) (h9:g.name≠[]) (tk:f.name=g.name):Ev E 488 [m.v,vi a,vi b] ⟨vi 0,[]⟩:=by
 have hz:=je h7
 clear h7
 have q1:=cj hl h h1
 have q2:=cj hl h2 h3
 refine Ev.bU mX (mY _) rfl ?_
 (conv=>whnf);repeat' ((first| intro g| refine ag.mk _ (hb) ?_| refine ag.mk _ (q1) ?_| refine ag.mk _ (q2) ?_| refine st ?_| (first| refine b1 ?_ ?_| refine b2 ?_ ?_| refine Br.mk ?_ ?_) <;>intro hc| exact rfl) <;>conv=>whnf)
theorem qv {m:aG} (hs:EP m) (a b:Int):Ev E 488 [m.v,vi a,vi b] ⟨vi (jX m a b),[]⟩:=by
 have hb:=yq hs.1 a b
 have hl:=hs.2
 generalize hr:jX m a b=r
 have hc:=px hr
 clear hr hs
 cases hc with
 | BC h h2=>exact An hl hb h h2
 | BD h h2 h3=>exact Ao hl hb h h2 h3
 | BE h h1 h2=>exact Ap hl hb h h1 h2
 | arg h h1 h2=>exact ES hl hb h h1 h2
 | bg h h1 h2 h3 h4 h5=>exact CW hl hb h h1 h2 h3 h4 h5
 | BF h h1 h2 h3 h4 h5 h6=>exact Aq hl hb h h1 h2 h3 h4 h5 h6
 | Hs h h1 h2 h3 h4 h5 h6 h7=>exact CX hl hb h h1 h2 h3 h4 h5 h6 h7
 | Ht h h1 h2 h3 h4 h5 h6 h7 h8 h9 tk=>exact CY hl hb h h1 h2 h3 h4 h5 h6 h7 h8 h9 tk
 | Pk h h1 h2 h3 h4 h5 h6 h7 h8=>exact ET hl hb h h1 h2 h3 h4 h5 h6 h7 h8
 | Pl h h1 h2 h3 h4 h5 h6 h7 h8 h9=>exact EU hl hb h h1 h2 h3 h4 h5 h6 h7 h8 h9
 | Pm h h1 h2 h3 h4 h5 h6 h7 h8 h9 tk=>exact EV hl hb h h1 h2 h3 h4 h5 h6 h7 h8 h9 tk
set_option maxHeartbeats 4000000 in
theorem ab0 {m:aG} (hs:EP m) (a b:Int):Ev E 487 [m.v,vi a,vi b] ⟨vi (jX m a b),[]⟩:=by
 have h1:=yt false hs.2
 have h2:=ER false hs a b
 have GB:=tq false m.ah m.ah.length
 have EW:gv E 500=[]:=rfl
 have Pn:gv E 501=[]:=rfl
 have Au:V.aq [m.v]=true:=by
  have h0:V.aE m.v=true:=aG.ug false m
  simp only[V.aq,h0];rfl
 have Hx:V.aq [m.v,.mlit (b5 false m.ah m.ah.length),vi a,vi b]=true:=by
  have h0:V.aE m.v=true:=aG.ug false m
  simp only[V.aq,GB,h0];rfl
 refine Ev.bU acX (acY _) rfl ?_
 (conv=>whnf);repeat' ((first| refine tg EW Au h1 GB ?_| refine tg Pn Hx h2 rfl ?_| intro g| refine st ?_| (first| refine b1 ?_ ?_| refine b2 ?_ ?_| refine Br.mk ?_ ?_) <;>intro hc| exact rfl) <;>conv=>whnf)
end Go.AM
