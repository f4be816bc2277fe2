/-
  Texts of the proof, joined by program: FuK, FuL, FuM. Own work.
-/
import Derived.Test.YtinmckmdbepjcaaGreatGb
set_option linter.unusedSimpArgs false
set_option linter.unusedVariables false
set_option maxRecDepth 20000
namespace Go.AM
structure EX where
 g3:Nat
 g4:Nat
 g5:Nat
 g6:Nat
 gP:Nat
 MJ:Nat
abbrev vp (G:EX) (M:V) (x:List (Nat×V)):List (Nat×V):=(3,.ptr 64 G.g3 0 0):: (4,.ptr 80 G.g4 0 0):: (5,.ptr 96 G.g5 0 0):: (6,.ptr 112 G.g6 0 0):: (8,M):: (10,.ptr 176 G.MJ 0 0)::x
abbrev vq (G:EX) (m:aG) (a b:Int) (E' F W:V) (x:List (Nat×Obj)):List (Nat×Obj):=
 (64,⟨G.g3,4,false,false,some [m.kv true]⟩):: (80,⟨G.g4,1,false,false,some [vi a]⟩):: (96,⟨G.g5,1,false,false,some [vi b]⟩):: (112,⟨G.g6,4,false,false,some [aG.zero.v]⟩)::
 (576,⟨G.gP,7,true,false,some (m.aw.map Place.v)⟩):: (176,⟨G.MJ,4,false,false,some [.agg [E',F,W,.sl 576 G.gP 0 (m.aw.map Place.v).length]]⟩)::x
abbrev lV (r:Nat) (og:Option Nat) (n:Nat):V:=match og with
 | none=> .nils
 | some g=> .sl r g 0 n
abbrev lR (r sz:Nat) (og:Option Nat) (l:List V):List (Nat×Obj):=match og with
 | none=> []
 | some g=> [(r,⟨g,sz,true,false,some l⟩)]
set_option maxHeartbeats 4000000 in
theorem SY {m:aG} {a b:Int} {G:EX} {M:V} {n k:Nat} {og:Option Nat} {x:Way} {ws:List V} {L:List Way} {Q:aW→SS→Prop} (hx:ws[k]? =some x.v) (hn:ws.length=n) (hk:k<n) (hb:n< 1000) (hL:L.length=k) (gC:og=none→L=[])
   (mG:Ev E 32 [iP x.line] ⟨.own 2 (x.line.map Pt.v),[]⟩)
   (hQ: ∀T' O' g',SS.Sub ⟨vp G M [(38,.lit 8 ws),(39,aF n),(40,aF (k+1))],vq G m a b .nils .nils (.sl 180 g' 0 (L++[x]).length) [(180,⟨g',8,true,false,some ((L++[x]).map Way.v)⟩)]⟩ ⟨T',O'⟩→Q .normal ⟨T',O'⟩):
   gY E BA ⟨vp G M [(38,.lit 8 ws),(39,aF n),(40,aF k)],vq G m a b .nils .nils (lV 180 og L.length) (lR 180 8 og (L.map Way.v))⟩ Q:=by
 cases og with
 | none=>
   have:=gC rfl
   subst this
   (conv=>whnf);repeat' ((first| intro g| refine aH.mk _ (hx) ?_| refine ag.mk _ (mG) ?_| refine st ?_| (first| refine b1 ?_ ?_| refine b2 ?_ ?_| refine Br.mk ?_ ?_) <;>intro hc| exact rfl) <;>conv=>whnf)
   exact hQ _ _ _ (by(refine⟨?_,?_⟩ <;>repeat' (first| exact True.intro| refine ai ?_| refine And.intro ?_ ?_)))
 | some g0=>
   (conv=>whnf);repeat' ((first| intro g| refine aH.mk _ (hx) ?_| refine ag.mk _ (mG) ?_| refine st ?_| (first| refine b1 ?_ ?_| refine b2 ?_ ?_| refine Br.mk ?_ ?_) <;>intro hc| exact rfl) <;>conv=>whnf)
   exact hQ _ _ _ (by(refine⟨?_,?_⟩ <;>repeat' (first| exact True.intro| refine ai ?_| refine And.intro ?_ ?_)))
set_option maxHeartbeats 4000000 in
theorem Lq {m:aG} {a b:Int} {G:EX} {M:V} {n k nw:Nat} {og ow:Option Nat} {e:Edge} {es ws:List V} {L:List Edge} {Q:aW→SS→Prop} (hx:es[k]? =some e.v) (hn:es.length=n) (hk:k<n) (hb:n< 1000) (hL:L.length≤k)
  (h1:df a b e.left=b) (h2:df a b e.right=b) (h3: ¬e.left=e.right) (hl:Ev E 502 [vi e.left,.eptr (vi a) 0,.eptr (vi b) 0] ⟨vi (df a b e.left),[]⟩) (hr:Ev E 502 [vi e.right,.eptr (vi a) 0,.eptr (vi b) 0] ⟨vi (df a b e.right),[]⟩)
  (hQ: ∀T' O',SS.Sub ⟨vp G M [(13,.fn 502 [.ptr 80 G.g4 0 0,.ptr 96 G.g5 0 0]),(57,.lit 4 es),(58,aF n),(59,aF (k+1))],vq G m a b (lV 178 og L.length) .nils (lV 180 ow nw) (lR 178 4 og (L.map Edge.v)++lR 180 8 ow ws)⟩ ⟨T',O'⟩→Q .normal ⟨T',O'⟩):
  gY E nT ⟨vp G M [(13,.fn 502 [.ptr 80 G.g4 0 0,.ptr 96 G.g5 0 0]),(57,.lit 4 es),(58,aF n),(59,aF k)],vq G m a b (lV 178 og L.length) .nils (lV 180 ow nw) (lR 178 4 og (L.map Edge.v)++lR 180 8 ow ws)⟩ Q:=by
 rw[h1] at hl
 rw[h2] at hr
 cases og<;>cases ow
 all_goals
  (conv=>whnf);repeat' ((first| intro g| refine aH.mk _ (hx) ?_| refine ag.mk _ (hl) ?_| refine ag.mk _ (hr) ?_| refine st ?_| (first| refine b1 ?_ ?_| refine b2 ?_ ?_| refine Br.mk ?_ ?_) <;>intro hc| exact rfl) <;>conv=>whnf)
  exact hQ _ _ (by(refine⟨?_,?_⟩ <;>repeat' (first| exact True.intro| refine ai ?_| refine And.intro ?_ ?_)))
set_option maxHeartbeats 4000000 in
theorem Po {m:aG} {a b:Int} {G:EX} {M:V} {n k nw:Nat} {og ow:Option Nat} {e:Edge} {es ws:List V} {L:List Edge} {Q:aW→SS→Prop} (hx:es[k]? =some e.v) (hn:es.length=n) (hk:k<n) (hb:n< 1000) (hL:L.length≤k) (gC:og=none→L=[])
  (mG:Ev E 32 [iP e.line] ⟨.own 2 (e.line.map Pt.v),[]⟩) (hl:Ev E 502 [vi e.left,.eptr (vi a) 0,.eptr (vi b) 0] ⟨vi (df a b e.left),[]⟩) (hr:Ev E 502 [vi e.right,.eptr (vi a) 0,.eptr (vi b) 0] ⟨vi (df a b e.right),[]⟩)
  (h1:df a b e.left=b) (h2:df a b e.right=b) (h3:e.left=e.right)
  (hQ: ∀T' O' g',SS.Sub ⟨vp G M [(13,.fn 502 [.ptr 80 G.g4 0 0,.ptr 96 G.g5 0 0]),(57,.lit 4 es),(58,aF n),(59,aF (k+1))],vq G m a b (.sl 178 g' 0 (L++[b6 a b e]).length) .nils (lV 180 ow nw) ([(178,⟨g',4,true,false,some ((L++[b6 a b e]).map Edge.v)⟩)]++lR 180 8 ow ws)⟩ ⟨T',O'⟩→Q .normal ⟨T',O'⟩):
  gY E nT ⟨vp G M [(13,.fn 502 [.ptr 80 G.g4 0 0,.ptr 96 G.g5 0 0]),(57,.lit 4 es),(58,aF n),(59,aF k)],vq G m a b (lV 178 og L.length) .nils (lV 180 ow nw) (lR 178 4 og (L.map Edge.v)++lR 180 8 ow ws)⟩ Q:=by
 rw[h1] at hl
 rw[h2] at hr
 have rK:b6 a b e=⟨e.id,e.line,b,b⟩:=by simp only[b6,h1,h2]
 rw[rK] at hQ
 clear rK
 clear h1 h2
 cases og<;>cases ow
 all_goals
  try (have:=gC rfl;subst this)
  (conv=>whnf);repeat' ((first| intro g| refine aH.mk _ (hx) ?_| refine ag.mk _ (hl) ?_| refine ag.mk _ (hr) ?_| refine ag.mk _ (mG) ?_| refine st ?_| (first| refine b1 ?_ ?_| refine b2 ?_ ?_| refine Br.mk ?_ ?_) <;>intro hc| exact rfl) <;>conv=>whnf)
  exact hQ _ _ _ (by(refine⟨?_,?_⟩ <;>repeat' (first| exact True.intro| refine ai ?_| refine And.intro ?_ ?_)))
set_option maxHeartbeats 4000000 in
theorem Pp {m:aG} {a b:Int} {G:EX} {M:V} {n k nw:Nat} {og ow:Option Nat} {e:Edge} {es ws:List V} {L:List Edge} {Q:aW→SS→Prop} (hx:es[k]? =some e.v) (hn:es.length=n) (hk:k<n) (hb:n< 1000) (hL:L.length≤k) (gC:og=none→L=[])
  (mG:Ev E 32 [iP e.line] ⟨.own 2 (e.line.map Pt.v),[]⟩) (hl:Ev E 502 [vi e.left,.eptr (vi a) 0,.eptr (vi b) 0] ⟨vi (df a b e.left),[]⟩) (hr:Ev E 502 [vi e.right,.eptr (vi a) 0,.eptr (vi b) 0] ⟨vi (df a b e.right),[]⟩)
  (h1:df a b e.left=b) (h2: ¬df a b e.right=b)
  (hQ: ∀T' O' g',SS.Sub ⟨vp G M [(13,.fn 502 [.ptr 80 G.g4 0 0,.ptr 96 G.g5 0 0]),(57,.lit 4 es),(58,aF n),(59,aF (k+1))],vq G m a b (.sl 178 g' 0 (L++[b6 a b e]).length) .nils (lV 180 ow nw) ([(178,⟨g',4,true,false,some ((L++[b6 a b e]).map Edge.v)⟩)]++lR 180 8 ow ws)⟩ ⟨T',O'⟩→Q .normal ⟨T',O'⟩):
  gY E nT ⟨vp G M [(13,.fn 502 [.ptr 80 G.g4 0 0,.ptr 96 G.g5 0 0]),(57,.lit 4 es),(58,aF n),(59,aF k)],vq G m a b (lV 178 og L.length) .nils (lV 180 ow nw) (lR 178 4 og (L.map Edge.v)++lR 180 8 ow ws)⟩ Q:=by
 rw[h1] at hl
 have rK:b6 a b e=⟨e.id,e.line,b,df a b e.right⟩:=by simp only[b6,h1]
 rw[rK] at hQ
 clear rK
 generalize df a b e.right=r at*
 clear h1
 cases og<;>cases ow
 all_goals
  try (have:=gC rfl;subst this)
  (conv=>whnf);repeat' ((first| intro g| refine aH.mk _ (hx) ?_| refine ag.mk _ (hl) ?_| refine ag.mk _ (hr) ?_| refine ag.mk _ (mG) ?_| refine st ?_| (first| refine b1 ?_ ?_| refine b2 ?_ ?_| refine Br.mk ?_ ?_) <;>intro hc| exact rfl) <;>conv=>whnf)
  exact hQ _ _ _ (by(refine⟨?_,?_⟩ <;>repeat' (first| exact True.intro| refine ai ?_| refine And.intro ?_ ?_)))
set_option maxHeartbeats 4000000 in
theorem Pq {m:aG} {a b:Int} {G:EX} {M:V} {n k nw:Nat} {og ow:Option Nat} {e:Edge} {es ws:List V} {L:List Edge} {Q:aW→SS→Prop} (hx:es[k]? =some e.v) (hn:es.length=n) (hk:k<n) (hb:n< 1000) (hL:L.length≤k) (gC:og=none→L=[])
  (mG:Ev E 32 [iP e.line] ⟨.own 2 (e.line.map Pt.v),[]⟩) (hl:Ev E 502 [vi e.left,.eptr (vi a) 0,.eptr (vi b) 0] ⟨vi (df a b e.left),[]⟩) (hr:Ev E 502 [vi e.right,.eptr (vi a) 0,.eptr (vi b) 0] ⟨vi (df a b e.right),[]⟩)
  (h1: ¬df a b e.left=b)
  (hQ: ∀T' O' g',SS.Sub ⟨vp G M [(13,.fn 502 [.ptr 80 G.g4 0 0,.ptr 96 G.g5 0 0]),(57,.lit 4 es),(58,aF n),(59,aF (k+1))],vq G m a b (.sl 178 g' 0 (L++[b6 a b e]).length) .nils (lV 180 ow nw) ([(178,⟨g',4,true,false,some ((L++[b6 a b e]).map Edge.v)⟩)]++lR 180 8 ow ws)⟩ ⟨T',O'⟩→Q .normal ⟨T',O'⟩):
  gY E nT ⟨vp G M [(13,.fn 502 [.ptr 80 G.g4 0 0,.ptr 96 G.g5 0 0]),(57,.lit 4 es),(58,aF n),(59,aF k)],vq G m a b (lV 178 og L.length) .nils (lV 180 ow nw) (lR 178 4 og (L.map Edge.v)++lR 180 8 ow ws)⟩ Q:=by
 have rK:b6 a b e=⟨e.id,e.line,df a b e.left,df a b e.right⟩:=rfl
 rw[rK] at hQ
 clear rK
 generalize df a b e.left=l at*
 generalize df a b e.right=r at*
 cases og<;>cases ow
 all_goals
  try (have:=gC rfl;subst this)
  (conv=>whnf);repeat' ((first| intro g| refine aH.mk _ (hx) ?_| refine ag.mk _ (hl) ?_| refine ag.mk _ (hr) ?_| refine ag.mk _ (mG) ?_| refine st ?_| (first| refine b1 ?_ ?_| refine b2 ?_ ?_| refine Br.mk ?_ ?_) <;>intro hc| exact rfl) <;>conv=>whnf)
  exact hQ _ _ _ (by(refine⟨?_,?_⟩ <;>repeat' (first| exact True.intro| refine ai ?_| refine And.intro ?_ ?_)))
theorem Hy {m:aG} {a b:Int} {G:EX} {M:V} {n k nw:Nat} {og ow:Option Nat} {e:Edge} {es ws:List V} {L:List Edge} {Q:aW→SS→Prop} (hx:es[k]? =some e.v) (hn:es.length=n) (hk:k<n) (hb:n< 1000) (hL:L.length≤k) (gC:og=none→L=[])
   (mG:Ev E 32 [iP e.line] ⟨.own 2 (e.line.map Pt.v),[]⟩) (hl:Ev E 502 [vi e.left,.eptr (vi a) 0,.eptr (vi b) 0] ⟨vi (df a b e.left),[]⟩) (hr:Ev E 502 [vi e.right,.eptr (vi a) 0,.eptr (vi b) 0] ⟨vi (df a b e.right),[]⟩) (py:a≠b) (ht:b9 a b e=false)
   (hQ: ∀T' O' g',SS.Sub ⟨vp G M [(13,.fn 502 [.ptr 80 G.g4 0 0,.ptr 96 G.g5 0 0]),(57,.lit 4 es),(58,aF n),(59,aF (k+1))],vq G m a b (.sl 178 g' 0 (L++[b6 a b e]).length) .nils (lV 180 ow nw) ([(178,⟨g',4,true,false,some ((L++[b6 a b e]).map Edge.v)⟩)]++lR 180 8 ow ws)⟩ ⟨T',O'⟩→Q .normal ⟨T',O'⟩):
   gY E nT ⟨vp G M [(13,.fn 502 [.ptr 80 G.g4 0 0,.ptr 96 G.g5 0 0]),(57,.lit 4 es),(58,aF n),(59,aF k)],vq G m a b (lV 178 og L.length) .nils (lV 180 ow nw) (lR 178 4 og (L.map Edge.v)++lR 180 8 ow ws)⟩ Q:=by
 rw[uh py] at ht
 by_cases h1:df a b e.left=b
 · by_cases h2:df a b e.right=b
   · by_cases h3:e.left=e.right
     · exact Po hx hn hk hb hL gC mG hl hr h1 h2 h3 hQ
     · simp[h1,h2,h3] at ht
   · exact Pp hx hn hk hb hL gC mG hl hr h1 h2 hQ
 · exact Pq hx hn hk hb hL gC mG hl hr h1 hQ
end Go.AM
set_option maxRecDepth 20000
namespace Go.AM
set_option maxHeartbeats 4000000 in
theorem EY {m:aG} {a b:Int} {G:EX} {M:V} {n k i j ne nw:Nat} {f g x:ar} {og oe ow:Option Nat} {es ws:List V} {L:List ar} {Q:aW→SS→Prop} (hx: (m.ah.map ar.v)[k]? =some x.v) (hn:m.ah.length=n) (hk:k<n) (hb:n< 1000) (hL:L.length≤k) (gC:og=none→L=[]) (h1:k=i)
  (hQ: ∀T' O',SS.Sub ⟨vp G M [(18,.epk i 5 f.v 0),(19,.epk j 5 g.v 0),(109,aF n),(110,aF (k+1))],vq G m a b (lV 178 oe ne) (lV 179 og L.length) (lV 180 ow nw) (lR 179 5 og (L.map ar.v)++lR 178 4 oe es++lR 180 8 ow ws)⟩ ⟨T',O'⟩→Q .normal ⟨T',O'⟩):
  gY E th ⟨vp G M [(18,.epk i 5 f.v 0),(19,.epk j 5 g.v 0),(109,aF n),(110,aF k)],vq G m a b (lV 178 oe ne) (lV 179 og L.length) (lV 180 ow nw) (lR 179 5 og (L.map ar.v)++lR 178 4 oe es++lR 180 8 ow ws)⟩ Q:=by
 subst h1
 have GC: (((k:Int).toNat==k) !=false)=true:=by simp
 cases og<;>cases oe<;>cases ow
 all_goals
  (conv=>whnf);repeat' ((first| intro g| refine aH.mk _ (hx) ?_| refine st ?_| (first| refine b1 ?_ ?_| refine b2 ?_ ?_| refine Br.mk ?_ ?_) <;>intro hc| exact rfl) <;>conv=>whnf)
  exact hQ _ _ (by(refine⟨?_,?_⟩ <;>repeat' (first| exact True.intro| refine ai ?_| refine And.intro ?_ ?_)))
set_option maxHeartbeats 4000000 in
theorem EZ {m:aG} {a b:Int} {G:EX} {M:V} {n k i j ne nw:Nat} {f g x:ar} {og oe ow:Option Nat} {es ws:List V} {L:List ar} {Q:aW→SS→Prop} (hx: (m.ah.map ar.v)[k]? =some x.v) (hn:m.ah.length=n) (hk:k<n) (hb:n< 1000) (hL:L.length≤k) (gC:og=none→L=[]) (h1: ¬k=i) (h2: ¬k=j)
  (hQ: ∀T' O' g',SS.Sub ⟨vp G M [(18,.epk i 5 f.v 0),(19,.epk j 5 g.v 0),(109,aF n),(110,aF (k+1))],vq G m a b (lV 178 oe ne) (.sl 179 g' 0 (L++[x]).length) (lV 180 ow nw) ([(179,⟨g',5,true,false,some ((L++[x]).map ar.v)⟩)]++lR 178 4 oe es++lR 180 8 ow ws)⟩ ⟨T',O'⟩→Q .normal ⟨T',O'⟩):
  gY E th ⟨vp G M [(18,.epk i 5 f.v 0),(19,.epk j 5 g.v 0),(109,aF n),(110,aF k)],vq G m a b (lV 178 oe ne) (lV 179 og L.length) (lV 180 ow nw) (lR 179 5 og (L.map ar.v)++lR 178 4 oe es++lR 180 8 ow ws)⟩ Q:=by
 have GC: (((k:Int).toNat==i) !=false)=false:=by simpa using h1
 have MK: (((k:Int).toNat==j) !=false)=false:=by simpa using h2
 cases og<;>cases oe<;>cases ow
 all_goals
  try (have:=gC rfl;subst this)
  (conv=>whnf);repeat' ((first| intro g| refine aH.mk _ (hx) ?_| refine st ?_| (first| refine b1 ?_ ?_| refine b2 ?_ ?_| refine Br.mk ?_ ?_) <;>intro hc| exact rfl) <;>conv=>whnf)
  exact hQ _ _ _ (by(refine⟨?_,?_⟩ <;>repeat' (first| exact True.intro| refine ai ?_| refine And.intro ?_ ?_)))
set_option maxHeartbeats 4000000 in
theorem E0 {m:aG} {a b:Int} {G:EX} {M:V} {n k i j ne nw:Nat} {f g x:ar} {og oe ow:Option Nat} {es ws:List V} {L:List ar} {Q:aW→SS→Prop} (hx: (m.ah.map ar.v)[k]? =some x.v) (hn:m.ah.length=n) (hk:k<n) (hb:n< 1000) (hL:L.length≤k) (gC:og=none→L=[]) (h1: ¬k=i) (h2:k=j) (ho:Ev E 17 [.lit 1 [.str x.name,.str f.name]] ⟨.str (Hv x.name f.name),[]⟩)
  (hQ: ∀T' O' g',SS.Sub ⟨vp G M [(18,.epk i 5 f.v 0),(19,.epk j 5 g.v 0),(109,aF n),(110,aF (k+1))],vq G m a b (lV 178 oe ne) (.sl 179 g' 0 (L++[gR x f]).length) (lV 180 ow nw) ([(179,⟨g',5,true,false,some ((L++[gR x f]).map ar.v)⟩)]++lR 178 4 oe es++lR 180 8 ow ws)⟩ ⟨T',O'⟩→Q .normal ⟨T',O'⟩):
  gY E th ⟨vp G M [(18,.epk i 5 f.v 0),(19,.epk j 5 g.v 0),(109,aF n),(110,aF k)],vq G m a b (lV 178 oe ne) (lV 179 og L.length) (lV 180 ow nw) (lR 179 5 og (L.map ar.v)++lR 178 4 oe es++lR 180 8 ow ws)⟩ Q:=by
 subst h2
 generalize hy:gR x f=y at*
 unfold gR EE at hy
 generalize Hv x.name f.name=nm at*
 have GC: (((k:Int).toNat==i) !=false)=false:=by simpa using h1
 have MK: (((k:Int).toNat==k) !=false)=true:=by simp
 cases og<;>cases oe<;>cases ow
 all_goals
  try (have:=gC rfl;subst this)
  (conv=>whnf);repeat' ((first| intro g| refine aH.mk _ (hx) ?_| refine ag.mk _ (ho) ?_| refine st ?_| (first| refine b1 ?_ ?_| refine b2 ?_ ?_| refine Br.mk ?_ ?_) <;>intro hc| exact rfl) <;>conv=>whnf)
  subst hy
  exact hQ _ _ _ (by(refine⟨?_,?_⟩ <;>repeat' (first| exact True.intro| refine ai ?_| refine And.intro ?_ ?_)))
end Go.AM
set_option maxRecDepth 20000
namespace Go.AM
theorem take_succ {α:Type} {l:List α} {n:Nat} {x:α} (h:l[n]? =some x):l.take (n+1)=l.take n++[x]:=by
 rw[List.take_add_one,h];rfl
theorem jn {fs:List ar} {i j:Nat} {y:ar} (hy:fs[j]? =some y) (vr:i≠j) (f:ar): ∀n,j<n→aR fs i j f n≠[]
 | 0,h=>by omega
 | n+1,h=>by
   by_cases hn:n=j
   · subst hn
     simp[aR,hy,Ne.symm vr]
   · have ih:=jn hy vr f n (by omega)
     cases hx:fs[n]? with
     | none=>rw[aR,hx];exact ih
     | some x=>
       rw[aR,hx]
       by_cases hi:n=i
       · simp only[if_pos hi];exact ih
       · simp only[if_neg hi,if_neg hn];simp
set_option maxHeartbeats 4000000 in
theorem CZ {m:aG} (hs:rJ m) (a b:Int) (hc:jX m a b=0) {i j:Nat} {f y:ar} (hi:findF m.ah a=some i) (yu:m.ah[i]? =some f) (hj:findF m.ah b=some j) (ui:m.ah[j]? =some y) (vr:i≠j) (py:a≠b):
  Ev E 485 [m.v,vi a,vi b] ⟨Ar m (bA m.an a b m.an.length) (aR m.ah i j f m.ah.length),[]⟩:=by
 have h1:=yt true (m:=m) (by have:=hs.f;omega)
 have h2:=ER true (m:=m) ⟨by have:=hs.e;omega,by have:=hs.f;omega⟩ a b
 rw[hc] at h2
 have GB:=tq true m.ah m.ah.length
 have h0:=aG.ug true m
 have EW:gv E 500=[]:=rfl
 have Pn:gv E 501=[]:=rfl
 have Au:V.aq [m.kv true]=true:=by simp only[V.aq,h0];rfl
 have Hx:V.aq [m.kv true,.mlit (b5 true m.ah m.ah.length),vi a,vi b]=true:=by simp only[V.aq,GB,h0];rfl
 have w9:=C0 m.aw (by have:=hs.p;omega)
 have Pr:=bO (k:=true) hi yu
 have UW:=bO (k:=true) hj ui
 have hE:m.an.length< 1000:=hs.e
 have hF:m.ah.length< 1000:=hs.f
 have hW:m.ways.length< 1000:=hs.w
 obtain⟨res,h3,h4⟩:=Ev.Iu (R:=fun r=>r=⟨Ar m (bA m.an a b m.an.length) (aR m.ah i j f m.ah.length),[]⟩) Iw (Ix _) rfl rfl (by simp only[V.aq,show V.aE m.v=true from aG.ug false m];rfl) (yr m a b) (by
  (conv=>whnf);repeat' ((first| refine tg EW Au h1 GB ?_| refine tg Pn Hx h2 rfl ?_| intro g| refine ag.mk _ (w9) ?_| refine st ?_| (first| refine b1 ?_ ?_| refine b2 ?_ ?_| refine Br.mk ?_ ?_) <;>intro hc| exact rfl) <;>conv=>whnf)
  rename_i g3 g4 g5 g6 gP
  clear h1 h2 w9 Au Hx h0
  refine ba.by (fun ((k,og):Nat×Option Nat)=> ⟨vp ⟨g3,g4,g5,g6,gP,g⟩ (.mlit (b5 true m.ah m.ah.length)) [(38,.lit 8 (m.ways.map Way.v)),(39,aF m.ways.length),(40,aF k)],
      vq ⟨g3,g4,g5,g6,gP,g⟩ m a b .nils .nils (lV 180 og (m.ways.take k).length) (lR 180 8 og ((m.ways.take k).map Way.v))⟩)
    (fun (k,og)=>k≤m.ways.length∧(og=none↔m.ways.take k=[])) (fun (k,_)=>m.ways.length - k) (0,none) ?_ ⟨by simp,by simp⟩ ?_
  · (refine⟨?_,?_⟩ <;>repeat' (first| exact True.intro| refine And.intro ((by(conv=>whnf);first| rfl| simp)) ?_| refine ai ?_| refine And.intro ?_ ?_))
  rintro⟨k,og⟩ ⟨hk,gC⟩
  try dsimp only at hk gC
  by_cases bk:k<m.ways.length
  · obtain⟨x,hx⟩: ∃x,m.ways[k]? =some x:=⟨_,aL bk⟩
    have mG:=uj x.line (by have:=hs.wl x (List.mem_of_getElem? hx);omega)
    refine SY (m:=m) (a:=a) (b:=b) (G:=⟨g3,g4,g5,g6,gP,g⟩) (x:=x) (by simp[hx]) (by simp) bk hW (by simp;omega) gC.1 mG fun T' O' g' dg=>bc.mk (k+1,some g') (by first| omega| (dsimp only;omega)) ⟨by omega,by simp[take_succ hx]⟩ ?_
    simp only[take_succ hx]
    exact dg
  obtain rfl:k=m.ways.length:=by omega
  simp only[List.take_length] at gC ⊢
  clear hk bk
  (conv=>whnf);repeat' ((first| intro g| refine st ?_| (first| refine b1 ?_ ?_| refine b2 ?_ ?_| refine Br.mk ?_ ?_) <;>intro hc| exact rfl) <;>conv=>whnf)
  clear GB
  refine ba.by (fun ((k,oe):Nat×Option Nat)=> ⟨vp ⟨g3,g4,g5,g6,gP,g⟩ (.mlit (b5 true m.ah m.ah.length)) [(13,.fn 502 [.ptr 80 g4 0 0,.ptr 96 g5 0 0]),(57,.lit 4 (m.an.map Edge.v)),(58,aF m.an.length),(59,aF k)],
      vq ⟨g3,g4,g5,g6,gP,g⟩ m a b (lV 178 oe (bA m.an a b k).length) .nils (lV 180 og m.ways.length) (lR 178 4 oe ((bA m.an a b k).map Edge.v)++lR 180 8 og (m.ways.map Way.v))⟩)
    (fun (k,oe)=>k≤m.an.length∧(oe=none↔bA m.an a b k=[])) (fun (k,_)=>m.an.length - k) (0,none) ?_ ⟨by simp,by simp[bA]⟩ ?_
  · cases og<;> (refine⟨?_,?_⟩ <;>repeat' (first| exact True.intro| refine And.intro ((by(conv=>whnf);first| rfl| simp)) ?_| refine ai ?_| refine And.intro ?_ ?_))
  rintro⟨k,oe⟩ ⟨hk,vc⟩
  try dsimp only at hk vc
  by_cases bk:k<m.an.length
  · obtain⟨x,hx⟩: ∃x,m.an[k]? =some x:=⟨_,aL bk⟩
    have mG:=uj x.line (by have:=hs.el x (List.mem_of_getElem? hx);omega)
    have hl:=BH a b x.left
    have hr:=BH a b x.right
    cases ht:b9 a b x with
    | true=>
      have hn:bA m.an a b (k+1)=bA m.an a b k:=by simp[bA,hx,ht]
      rw[uh py] at ht
      simp only[decide_eq_true_eq] at ht
      refine Lq (m:=m) (a:=a) (b:=b) (G:=⟨g3,g4,g5,g6,gP,g⟩) (e:=x) (by simp[hx]) (by simp) bk hE (fh ..) ht.1 ht.2.1 ht.2.2 hl hr fun T' O' dg=>bc.mk (k+1,oe) (by first| omega| (dsimp only;omega)) ⟨by omega,by rw[hn];exact vc⟩ ?_
      simp only[hn]
      exact dg
    | false=>
      have hn:bA m.an a b (k+1)=bA m.an a b k++[b6 a b x]:=by simp[bA,hx,ht]
      refine Hy (m:=m) (a:=a) (b:=b) (G:=⟨g3,g4,g5,g6,gP,g⟩) (e:=x) (by simp[hx]) (by simp) bk hE (fh ..) vc.1 mG hl hr py ht fun T' O' g' dg=>bc.mk (k+1,some g') (by first| omega| (dsimp only;omega)) ⟨by omega,by rw[hn];simp⟩ ?_
      simp only[hn]
      exact dg
  obtain rfl:k=m.an.length:=by omega
  clear hk bk
  (conv=>whnf);repeat' ((first| intro g| refine aH.mk _ (Pr) ?_| refine aH.mk _ (UW) ?_| refine st ?_| (first| refine b1 ?_ ?_| refine b2 ?_ ?_| refine Br.mk ?_ ?_) <;>intro hc| exact rfl) <;>conv=>whnf)
  clear Pr UW
  generalize RY:bA m.an a b m.an.length=Es at*
  refine ba.by (fun ((k,of):Nat×Option Nat)=> ⟨vp ⟨g3,g4,g5,g6,gP,g⟩ (.mlit (b5 true m.ah m.ah.length)) [(18,.epk i 5 f.v 0),(19,.epk j 5 y.v 0),(109,aF m.ah.length),(110,aF k)],
      vq ⟨g3,g4,g5,g6,gP,g⟩ m a b (lV 178 oe Es.length) (lV 179 of (aR m.ah i j f k).length) (lV 180 og m.ways.length) (lR 179 5 of ((aR m.ah i j f k).map ar.v)++lR 178 4 oe (Es.map Edge.v)++lR 180 8 og (m.ways.map Way.v))⟩)
    (fun (k,of)=>k≤m.ah.length∧(of=none↔aR m.ah i j f k=[])) (fun (k,_)=>m.ah.length - k) (0,none) ?_ ⟨by simp,by simp[aR]⟩ ?_
  · cases og<;>cases oe<;> (refine⟨?_,?_⟩ <;>repeat' (first| exact True.intro| refine And.intro ((by(conv=>whnf);first| rfl| simp)) ?_| refine ai ?_| refine And.intro ?_ ?_))
  rintro⟨k,of⟩ ⟨hk,iT⟩
  try dsimp only at hk iT
  by_cases bk:k<m.ah.length
  · obtain⟨x,hx⟩: ∃x,m.ah[k]? =some x:=⟨_,aL bk⟩
    by_cases ke:k=i
    · have hn:aR m.ah i j f (k+1)=aR m.ah i j f k:=by rw[aR,hx];simp only[if_pos ke]
      refine EY (m:=m) (a:=a) (b:=b) (G:=⟨g3,g4,g5,g6,gP,g⟩) (x:=x) (by simp[hx]) rfl bk hF (bp ..) iT.1 ke fun T' O' dg=>bc.mk (k+1,of) (by first| omega| (dsimp only;omega)) ⟨by omega,by rw[hn];exact iT⟩ ?_
      simp only[hn]
      exact dg
    by_cases nW:k=j
    · have hn:aR m.ah i j f (k+1)=aR m.ah i j f k++[gR x f]:=by rw[aR,hx];simp only[if_neg ke,if_pos nW]
      refine E0 (m:=m) (a:=a) (b:=b) (G:=⟨g3,g4,g5,g6,gP,g⟩) (x:=x) (by simp[hx]) rfl bk hF (bp ..) iT.1 ke nW (Lr _ _) fun T' O' g' dg=>bc.mk (k+1,some g') (by first| omega| (dsimp only;omega)) ⟨by omega,by rw[hn];simp⟩ ?_
      simp only[hn]
      exact dg
    · have hn:aR m.ah i j f (k+1)=aR m.ah i j f k++[x]:=by rw[aR,hx];simp only[if_neg ke,if_neg nW]
      refine EZ (m:=m) (a:=a) (b:=b) (G:=⟨g3,g4,g5,g6,gP,g⟩) (x:=x) (by simp[hx]) rfl bk hF (bp ..) iT.1 ke nW fun T' O' g' dg=>bc.mk (k+1,some g') (by first| omega| (dsimp only;omega)) ⟨by omega,by rw[hn];simp⟩ ?_
      simp only[hn]
      exact dg
  obtain rfl:k=m.ah.length:=by omega
  clear hk bk
  have cT:=jn ui vr f m.ah.length (List.getElem?_eq_some_iff.1 ui).1
  try dsimp only
  generalize aR m.ah i j f m.ah.length=Fs at*
  cases of with
  | none=>exact absurd (iT.1 rfl) cT
  | some g9=>
    have o1:oe=none∧Es=[]∨(∃g,oe=some g)∧oL 4 (Es.map Edge.v)= .own 4 (Es.map Edge.v):=by
      cases oe with
      | none=>exact .inl ⟨rfl,vc.1 rfl⟩
      | some g=>
        refine .inr ⟨⟨g,rfl⟩,?_⟩
        cases Es with
        | nil=>simp at vc
        | cons e l=>rfl
    have o2:og=none∧m.ways=[]∨(∃g,og=some g)∧oL 8 (m.ways.map Way.v)= .own 8 (m.ways.map Way.v):=by
      cases og with
      | none=>exact .inl ⟨rfl,gC.1 rfl⟩
      | some g=>
        refine .inr ⟨⟨g,rfl⟩,?_⟩
        cases hw:m.ways with
        | nil=>simp[hw] at gC
        | cons e l=>rfl
    unfold Ar
    clear vc gC iT cT hs
    rcases o1 with⟨rfl,rfl⟩ | ⟨⟨g1,rfl⟩,e1⟩ <;>rcases o2 with⟨rfl,e2⟩ | ⟨⟨g2,rfl⟩,e2⟩
    · rw[e2]
      (conv=>whnf);repeat' ((first| intro g| refine aH.mk _ (dU (by simp)) ?_| refine st ?_| (first| refine b1 ?_ ?_| refine b2 ?_ ?_| refine Br.mk ?_ ?_) <;>intro hc| exact rfl) <;>conv=>whnf)
      all_goals rfl
    · rw[e2]
      (conv=>whnf);repeat' ((first| intro g| refine aH.mk _ (dU (by simp)) ?_| refine st ?_| (first| refine b1 ?_ ?_| refine b2 ?_ ?_| refine Br.mk ?_ ?_) <;>intro hc| exact rfl) <;>conv=>whnf)
      all_goals rfl
    · rw[e1,e2]
      (conv=>whnf);repeat' ((first| intro g| refine aH.mk _ (dU (by simp)) ?_| refine st ?_| (first| refine b1 ?_ ?_| refine b2 ?_ ?_| refine Br.mk ?_ ?_) <;>intro hc| exact rfl) <;>conv=>whnf)
      all_goals rfl
    · rw[e1,e2]
      (conv=>whnf);repeat' ((first| intro g| refine aH.mk _ (dU (by simp)) ?_| refine st ?_| (first| refine b1 ?_ ?_| refine b2 ?_ ?_| refine Br.mk ?_ ?_) <;>intro hc| exact rfl) <;>conv=>whnf)
      all_goals rfl
  )
 rw[h4] at h3
 simp only[Hw] at h3
 exact h3
end Go.AM
