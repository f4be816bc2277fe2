/-
  Texts of the proof, joined by program: FuH, FuI, FuJ. Own work.
-/
import Derived.Test.YtinmckmdbepjcaaGreatGa
set_option linter.unusedSimpArgs false
set_option linter.unusedVariables false
set_option maxRecDepth 20000
namespace Go.AM
theorem aG.ug (k:Bool) (m:aG): (m.kv k).aE=true:=by
 cases k<;>simp only[aG.kv,w8,V.aE,V.aq,Edge.cN,ar.cN,Way.cN,Place.cN,Bool.and_self]
theorem nV {m:aG} (hl:m.ah.length< 1000000) {id:Int} (h:findF m.ah id=none):Ev E 503 [m.v,vi id] ⟨.tuple [ar.zero.v,.bool false],[]⟩:=by
 have:=BG hl id
 rw[h] at this
 exact this
theorem cj {m:aG} (hl:m.ah.length< 1000000) {id:Int} {i:Nat} {f:ar} (h:findF m.ah id=some i) (hf:m.ah[i]? =some f):Ev E 503 [m.v,vi id] ⟨.tuple [f.v,.bool true],[]⟩:=by
 have:=BG hl id
 rw[h] at this
 have vb:m.ah.getD i ar.zero=f:=by simp[List.getD_eq_getElem?_getD,hf]
 simp only[vb] at this
 exact this
theorem vn {es:List Edge} {a b:Int} (h:es.any (b9 a b)=false): ((dH es a b).map vi).length=0:=by
 rw[(qu es a b).2 h];rfl
theorem je {es:List Edge} {a b:Int} (h:es.any (b9 a b)=true): ¬ ((dH es a b).map vi).length=0:=by
 rw[List.length_map,List.length_eq_zero_iff,qu,h];simp
set_option maxHeartbeats 4000000 in
theorem An {m:aG} {a b:Int} (hl:m.ah.length< 1000000) (hb:Ev E 504 [.lit 4 (m.an.map Edge.v),vi a,vi b] ⟨.lit 1 ((dH m.an a b).map vi),[]⟩) (h:findF m.ah a=none) (h2:findF m.ah b=none):Ev E 488 [m.v,vi a,vi b] ⟨vi 5,[]⟩:=by
 have q1:=nV hl h
 have q2:=nV hl h2
 refine Ev.bU mX (mY _) rfl ?_
 (conv=>whnf);repeat' ((first| intro g| refine ag.mk _ (q1) ?_| refine ag.mk _ (q2) ?_| refine st ?_| (first| refine b1 ?_ ?_| refine b2 ?_ ?_| refine Br.mk ?_ ?_) <;>intro hc| exact rfl) <;>conv=>whnf)
set_option maxHeartbeats 4000000 in
theorem Ao {m:aG} {a b:Int} (hl:m.ah.length< 1000000) (hb:Ev E 504 [.lit 4 (m.an.map Edge.v),vi a,vi b] ⟨.lit 1 ((dH m.an a b).map vi),[]⟩) {j:Nat} {g:ar} (h:findF m.ah a=none) (h2:findF m.ah b=some j) (h3:m.ah[j]? =some g):Ev E 488 [m.v,vi a,vi b] ⟨vi 5,[]⟩:=by
 have q1:=nV hl h
 have q2:=cj hl h2 h3
 refine Ev.bU mX (mY _) rfl ?_
 (conv=>whnf);repeat' ((first| intro g| refine ag.mk _ (q1) ?_| refine ag.mk _ (q2) ?_| refine st ?_| (first| refine b1 ?_ ?_| refine b2 ?_ ?_| refine Br.mk ?_ ?_) <;>intro hc| exact rfl) <;>conv=>whnf)
set_option maxHeartbeats 4000000 in
theorem Ap {m:aG} {a b:Int} (hl:m.ah.length< 1000000) (hb:Ev E 504 [.lit 4 (m.an.map Edge.v),vi a,vi b] ⟨.lit 1 ((dH m.an a b).map vi),[]⟩) {i:Nat} {f:ar} (h:findF m.ah a=some i) (h1:m.ah[i]? =some f) (h2:findF m.ah b=none):Ev E 488 [m.v,vi a,vi b] ⟨vi 5,[]⟩:=by
 have q1:=cj hl h h1
 have q2:=nV hl h2
 refine Ev.bU mX (mY _) rfl ?_
 (conv=>whnf);repeat' ((first| intro g| refine ag.mk _ (q1) ?_| refine ag.mk _ (q2) ?_| refine st ?_| (first| refine b1 ?_ ?_| refine b2 ?_ ?_| refine Br.mk ?_ ?_) <;>intro hc| exact rfl) <;>conv=>whnf)
set_option maxHeartbeats 4000000 in
theorem ES {m:aG} {a b:Int} (hl:m.ah.length< 1000000) (hb:Ev E 504 [.lit 4 (m.an.map Edge.v),vi a,vi b] ⟨.lit 1 ((dH m.an a b).map vi),[]⟩) {i:Nat} {f:ar} (h:findF m.ah a=some i) (h1:m.ah[i]? =some f) (h2:a=b):Ev E 488 [m.v,vi a,vi b] ⟨vi 1,[]⟩:=by
 subst h2
 have q1:=cj hl h h1
 have q2:=q1
 refine Ev.bU mX (mY _) rfl ?_
 (conv=>whnf);repeat' ((first| intro g| refine ag.mk _ (q1) ?_| refine ag.mk _ (q2) ?_| refine st ?_| (first| refine b1 ?_ ?_| refine b2 ?_ ?_| refine Br.mk ?_ ?_) <;>intro hc| exact rfl) <;>conv=>whnf)
set_option maxHeartbeats 4000000 in
theorem CW {m:aG} {a b:Int} (hl:m.ah.length< 1000000) (hb:Ev E 504 [.lit 4 (m.an.map Edge.v),vi a,vi b] ⟨.lit 1 ((dH m.an a b).map vi),[]⟩) {i j:Nat} {f g:ar} (h:findF m.ah a=some i) (h1:m.ah[i]? =some f) (h2:findF m.ah b=some j) (h3:m.ah[j]? =some g) (h4:a≠b) (h5:f.bg≠g.bg):Ev E 488 [m.v,vi a,vi b] ⟨vi 25,[]⟩:=by
 have q1:=cj hl h h1
 have q2:=cj hl h2 h3
 refine Ev.bU mX (mY _) rfl ?_
 (conv=>whnf);repeat' ((first| intro g| refine ag.mk _ (q1) ?_| refine ag.mk _ (q2) ?_| refine st ?_| (first| refine b1 ?_ ?_| refine b2 ?_ ?_| refine Br.mk ?_ ?_) <;>intro hc| exact rfl) <;>conv=>whnf)
set_option maxHeartbeats 4000000 in
theorem Aq {m:aG} {a b:Int} (hl:m.ah.length< 1000000) (hb:Ev E 504 [.lit 4 (m.an.map Edge.v),vi a,vi b] ⟨.lit 1 ((dH m.an a b).map vi),[]⟩) {i j:Nat} {f g:ar} (h:findF m.ah a=some i) (h1:m.ah[i]? =some f) (h2:findF m.ah b=some j) (h3:m.ah[j]? =some g) (h4:a≠b) (h5:f.bg=g.bg) (h6:f.bg< 1):Ev E 488 [m.v,vi a,vi b] ⟨vi 25,[]⟩:=by
 have q1:=cj hl h h1
 have q2:=cj hl h2 h3
 refine Ev.bU mX (mY _) rfl ?_
 (conv=>whnf);repeat' ((first| intro g| refine ag.mk _ (q1) ?_| refine ag.mk _ (q2) ?_| refine st ?_| (first| refine b1 ?_ ?_| refine b2 ?_ ?_| refine Br.mk ?_ ?_) <;>intro hc| exact rfl) <;>conv=>whnf)
set_option maxHeartbeats 4000000 in
theorem CX {m:aG} {a b:Int} (hl:m.ah.length< 1000000) (hb:Ev E 504 [.lit 4 (m.an.map Edge.v),vi a,vi b] ⟨.lit 1 ((dH m.an a b).map vi),[]⟩) {i j:Nat} {f g:ar} (h:findF m.ah a=some i) (h1:m.ah[i]? =some f) (h2:findF m.ah b=some j) (h3:m.ah[j]? =some g) (h4:a≠b) (h5:f.bg=g.bg) (h6: ¬f.bg< 1) (h7:m.an.any (b9 a b)=false):Ev E 488 [m.v,vi a,vi b] ⟨vi 13,[]⟩:=by
 have hz:=vn h7
 clear h7
 have q1:=cj hl h h1
 have q2:=cj hl h2 h3
 refine Ev.bU mX (mY _) rfl ?_
 (conv=>whnf);repeat' ((first| intro g| refine ag.mk _ (hb) ?_| refine ag.mk _ (q1) ?_| refine ag.mk _ (q2) ?_| refine st ?_| (first| refine b1 ?_ ?_| refine b2 ?_ ?_| refine Br.mk ?_ ?_) <;>intro hc| exact rfl) <;>conv=>whnf)
set_option maxHeartbeats 4000000 in
theorem CY {m:aG} {a b:Int} (hl:m.ah.length< 1000000) (hb:Ev E 504 [.lit 4 (m.an.map Edge.v),vi a,vi b] ⟨.lit 1 ((dH m.an a b).map vi),[]⟩) {i j:Nat} {f g:ar} (h:findF m.ah a=some i) (h1:m.ah[i]? =some f) (h2:findF m.ah b=some j) (h3:m.ah[j]? =some g) (h4:a≠b) (h5:f.bg=g.bg) (h6: ¬f.bg< 1) (h7:m.an.any (b9 a b)=true) (h8:f.name≠[]) (h9:g.name≠[]) (tk:f.name≠g.name):Ev E 488 [m.v,vi a,vi b] ⟨vi 24,[]⟩:=by
 have hz:=je h7
 clear h7
 have q1:=cj hl h h1
 have q2:=cj hl h2 h3
 refine Ev.bU mX (mY _) rfl ?_
 (conv=>whnf);repeat' ((first| intro g| refine ag.mk _ (hb) ?_| refine ag.mk _ (q1) ?_| refine ag.mk _ (q2) ?_| refine st ?_| (first| refine b1 ?_ ?_| refine b2 ?_ ?_| refine Br.mk ?_ ?_) <;>intro hc| exact rfl) <;>conv=>whnf)
set_option maxHeartbeats 4000000 in
theorem ET {m:aG} {a b:Int} (hl:m.ah.length< 1000000) (hb:Ev E 504 [.lit 4 (m.an.map Edge.v),vi a,vi b] ⟨.lit 1 ((dH m.an a b).map vi),[]⟩) {i j:Nat} {f g:ar} (h:findF m.ah a=some i) (h1:m.ah[i]? =some f) (h2:findF m.ah b=some j) (h3:m.ah[j]? =some g) (h4:a≠b) (h5:f.bg=g.bg) (h6: ¬f.bg< 1) (h7:m.an.any (b9 a b)=true) (h8:f.name=[]):Ev E 488 [m.v,vi a,vi b] ⟨vi 0,[]⟩:=by
 have hz:=je h7
 clear h7
 have q1:=cj hl h h1
 have q2:=cj hl h2 h3
 refine Ev.bU mX (mY _) rfl ?_
 (conv=>whnf);repeat' ((first| intro g| refine ag.mk _ (hb) ?_| refine ag.mk _ (q1) ?_| refine ag.mk _ (q2) ?_| refine st ?_| (first| refine b1 ?_ ?_| refine b2 ?_ ?_| refine Br.mk ?_ ?_) <;>intro hc| exact rfl) <;>conv=>whnf)
set_option maxHeartbeats 4000000 in
theorem EU {m:aG} {a b:Int} (hl:m.ah.length< 1000000) (hb:Ev E 504 [.lit 4 (m.an.map Edge.v),vi a,vi b] ⟨.lit 1 ((dH m.an a b).map vi),[]⟩) {i j:Nat} {f g:ar} (h:findF m.ah a=some i) (h1:m.ah[i]? =some f) (h2:findF m.ah b=some j) (h3:m.ah[j]? =some g) (h4:a≠b) (h5:f.bg=g.bg) (h6: ¬f.bg< 1) (h7:m.an.any (b9 a b)=true) (h8:f.name≠[]) (h9:g.name=[]):Ev E 488 [m.v,vi a,vi b] ⟨vi 0,[]⟩:=by
 have hz:=je h7
 clear h7
 have q1:=cj hl h h1
 have q2:=cj hl h2 h3
 refine Ev.bU mX (mY _) rfl ?_
 (conv=>whnf);repeat' ((first| intro g| refine ag.mk _ (hb) ?_| refine ag.mk _ (q1) ?_| refine ag.mk _ (q2) ?_| refine st ?_| (first| refine b1 ?_ ?_| refine b2 ?_ ?_| refine Br.mk ?_ ?_) <;>intro hc| exact rfl) <;>conv=>whnf)
set_option maxHeartbeats 4000000 in
theorem EV {m:aG} {a b:Int} (hl:m.ah.length< 1000000) (hb:Ev E 504 [.lit 4 (m.an.map Edge.v),vi a,vi b] ⟨.lit 1 ((dH m.an a b).map vi),[]⟩) {i j:Nat} {f g:ar} (h:findF m.ah a=some i) (h1:m.ah[i]? =some f) (h2:findF m.ah b=some j) (h3:m.ah[j]? =some g) (h4:a≠b) (h5:f.bg=g.bg) (h6: ¬f.bg< 1) (h7:m.an.any (b9 a b)=true) (h8:f.name≠[]) (h9:g.name≠[]) (tk:f.name=g.name):Ev E 488 [m.v,vi a,vi b] ⟨vi 0,[]⟩:=by
 have hz:=je h7
 clear h7
 have q1:=cj hl h h1
 have q2:=cj hl h2 h3
 refine Ev.bU mX (mY _) rfl ?_
 (conv=>whnf);repeat' ((first| intro g| refine ag.mk _ (hb) ?_| refine ag.mk _ (q1) ?_| refine ag.mk _ (q2) ?_| refine st ?_| (first| refine b1 ?_ ?_| refine b2 ?_ ?_| refine Br.mk ?_ ?_) <;>intro hc| exact rfl) <;>conv=>whnf)
theorem qv {m:aG} (hs:EP m) (a b:Int):Ev E 488 [m.v,vi a,vi b] ⟨vi (jX m a b),[]⟩:=by
 have hb:=yq hs.1 a b
 have hl:=hs.2
 generalize hr:jX m a b=r
 have hc:=px hr
 clear hr hs
 cases hc with
 | BC h h2=>exact An hl hb h h2
 | BD h h2 h3=>exact Ao hl hb h h2 h3
 | BE h h1 h2=>exact Ap hl hb h h1 h2
 | arg h h1 h2=>exact ES hl hb h h1 h2
 | bg h h1 h2 h3 h4 h5=>exact CW hl hb h h1 h2 h3 h4 h5
 | BF h h1 h2 h3 h4 h5 h6=>exact Aq hl hb h h1 h2 h3 h4 h5 h6
 | Hs h h1 h2 h3 h4 h5 h6 h7=>exact CX hl hb h h1 h2 h3 h4 h5 h6 h7
 | Ht h h1 h2 h3 h4 h5 h6 h7 h8 h9 tk=>exact CY hl hb h h1 h2 h3 h4 h5 h6 h7 h8 h9 tk
 | Pk h h1 h2 h3 h4 h5 h6 h7 h8=>exact ET hl hb h h1 h2 h3 h4 h5 h6 h7 h8
 | Pl h h1 h2 h3 h4 h5 h6 h7 h8 h9=>exact EU hl hb h h1 h2 h3 h4 h5 h6 h7 h8 h9
 | Pm h h1 h2 h3 h4 h5 h6 h7 h8 h9 tk=>exact EV hl hb h h1 h2 h3 h4 h5 h6 h7 h8 h9 tk
end Go.AM
set_option maxRecDepth 20000
namespace Go.AM
structure rJ (m:aG):Prop where
 e:m.an.length< 1000
 f:m.ah.length< 1000
 w:m.ways.length< 1000
 p:m.aw.length< 1000
 el: ∀e ∈ m.an,e.line.length< 1000
 wl: ∀w ∈ m.ways,w.line.length< 1000
def df (a b x:Int):Int:=if x=a then b else x
theorem BH (a b x:Int):Ev E 502 [vi x,.eptr (vi a) 0,.eptr (vi b) 0] ⟨vi (df a b x),[]⟩:=by
 unfold df
 refine Ev.bU NY (NZ _) rfl ?_
 (conv=>whnf);repeat' ((first| intro g| refine st ?_| (first| refine b1 ?_ ?_| refine b2 ?_ ?_| refine Br.mk ?_ ?_) <;>intro hc| exact rfl) <;>conv=>whnf)
 · rw[if_pos hc]
 · rw[if_neg hc]
def b6 (a b:Int) (e:Edge):Edge:=⟨e.id,e.line,df a b e.left,df a b e.right⟩
def bA (es:List Edge) (a b:Int):Nat→List Edge
 | 0=> []
 | n+1=>match es[n]? with
   | some e=>if b9 a b e then bA es a b n else bA es a b n++[b6 a b e]
   | none=>bA es a b n
def gR (x f:ar):ar:=⟨x.id,x.cls,Hv x.name f.name,if 255 <EE (x.weight+f.weight) then 255 else EE (x.weight+f.weight),x.bg⟩
def aR (fs:List ar) (i j:Nat) (f:ar):Nat→List ar
 | 0=> []
 | n+1=>match fs[n]? with
   | some x=>if n=i then aR fs i j f n else if n=j then aR fs i j f n++[gR x f] else aR fs i j f n++[x]
   | none=>aR fs i j f n
theorem fh (es:List Edge) (a b:Int): ∀n,(bA es a b n).length≤n
 | 0=>Nat.le_refl _
 | n+1=>by
   have:=fh es a b n
   unfold bA;split
   · split
     · omega
     · simp;omega
   · omega
theorem bp (fs:List ar) (i j:Nat) (f:ar): ∀n,(aR fs i j f n).length≤n
 | 0=>Nat.le_refl _
 | n+1=>by
   have:=bp fs i j f n
   unfold aR;split
   · split
     · omega
     · split<;> (simp;omega)
   · omega
theorem uh {a b:Int} (h:a≠b) (e:Edge):b9 a b e=decide (df a b e.left=b∧df a b e.right=b∧e.left≠e.right):=by
 unfold b9 df
 rw[decide_eq_decide]
 by_cases h1:e.left=a<;>by_cases h2:e.right=a<;>by_cases h3:e.left=b<;>by_cases h4:e.right=b<;>simp_all
theorem eQ {α:Type} {f:α→V} (h: ∀x,(f x).erase=f x): ∀l:List α,V.erases (l.map f)=l.map f
 | []=>rfl
 | x::l=>by simp only[List.map_cons,V.erases,h x,eQ h l]
theorem Pt.er (p:Pt):p.v.erase=p.v:=rfl
theorem Edge.er (e:Edge):e.v.erase=e.v:=by simp only[Edge.v,iP,V.erase,V.erases,vi,eQ Pt.er]
theorem ar.er (e:ar):e.v.erase=e.v:=rfl
theorem Way.er (e:Way):e.v.erase=e.v:=by simp only[Way.v,iP,V.erase,V.erases,vi,eQ Pt.er]
theorem Place.er (e:Place):e.v.erase=e.v:=rfl
theorem yr (m:aG) (a b:Int):ct (0,1) [m.v,vi a,vi b]=[m.kv true,vi a,vi b]:=by
 simp only[ct,V.erases,V.erase,aG.v,vi,eQ Edge.er,eQ ar.er,eQ Way.er,eQ Place.er]
 rfl
def oL (sz:Nat):List V→V
 | []=> .lit sz []
 | x::l=> .own sz (x::l)
theorem IH {α:Type} {f:α→V} (h: ∀x,(f x).erase=f x) (sz:Nat) (l:List α): (oL sz (l.map f)).erase=oL sz (l.map f):=by
 cases l with
 | nil=>rfl
 | cons x l=>simp only[List.map_cons,oL,V.erase,V.erases,h x,eQ h]
def Ar (m:aG) (es:List Edge) (fs:List ar):V:= .tuple [.agg [oL 4 (es.map Edge.v),.own 5 (fs.map ar.v),oL 8 (m.ways.map Way.v),.own 7 (m.aw.map Place.v)],vi 0]
theorem Hw (m:aG) (es:List Edge) (fs:List ar): (Ar m es fs).erase=Ar m es fs:=by
 simp only[Ar,V.erase,V.erases,vi,IH Edge.er,IH Way.er,eQ ar.er,eQ Place.er]
end Go.AM
set_option maxRecDepth 20000
namespace Go.AM
set_option maxHeartbeats 4000000 in
theorem As {m:aG} (hs:rJ m) (a b:Int) (hc:jX m a b≠0):Ev E 485 [m.v,vi a,vi b] ⟨.tuple [aG.zero.v,vi (jX m a b)],[]⟩:=by
 have h1:=yt true (m:=m) (by have:=hs.f;omega)
 have h2:=ER true (m:=m) ⟨by have:=hs.e;omega,by have:=hs.f;omega⟩ a b
 have GB:=tq true m.ah m.ah.length
 have h0:=aG.ug true m
 have EW:gv E 500=[]:=rfl
 have Pn:gv E 501=[]:=rfl
 have Au:V.aq [m.kv true]=true:=by simp only[V.aq,h0];rfl
 have Hx:V.aq [m.kv true,.mlit (b5 true m.ah m.ah.length),vi a,vi b]=true:=by simp only[V.aq,GB,h0];rfl
 generalize jX m a b=c at*
 obtain⟨res,h3,h4⟩:=Ev.Iu (R:=fun r=>r=⟨.tuple [aG.zero.v,vi c],[]⟩) Iw (Ix _) rfl rfl (by simp only[V.aq,show V.aE m.v=true from aG.ug false m];rfl) (yr m a b) (by
  (conv=>whnf);repeat' ((first| refine tg EW Au h1 GB ?_| refine tg Pn Hx h2 rfl ?_| intro g| refine st ?_| (first| refine b1 ?_ ?_| refine b2 ?_ ?_| refine Br.mk ?_ ?_) <;>intro hc| exact rfl) <;>conv=>whnf)
  )
 rw[h4] at h3
 exact h3
end Go.AM
