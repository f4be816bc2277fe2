/-
  Texts of the proof, joined by program: FuO. Own work.
-/
import Derived.Test.YtinmckmdbepjcaaGreatGc
set_option linter.unusedSimpArgs false
set_option linter.unusedVariables false
set_option maxRecDepth 20000
namespace Go.AM
set_option maxHeartbeats 4000000 in
theorem Gk {m:aG} {a b:Int} {f:ar} {g6 g9 dK fJ gF gP n k:Nat} {og ow0:Option Nat} {gE:Nat} {e:Edge} {L:List Edge} {Q:aW→SS→Prop} (hx: (m.an.map Edge.v)[k]? =some e.v) (hn:m.an.length=n) (hk:k<n) (hb:n< 1000) (hL:L.length≤k) (gC:og=none→L=[]) (ht:b9 a b e=true)
  (hQ: ∀T' O',SS.Sub ⟨[(1,vi a),(2,vi b),(6,.ptr 112 g6 0 0),(9,.ptr 160 g9 0 0),(11,.ptr 192 dK 0 0),(12,.ptr 208 fJ 0 0),(13,aF (k+1))],(112,⟨g6,4,false,false,some [aG.zero.v]⟩):: (160,⟨g9,5,false,false,some [f.v]⟩):: (192,⟨dK,4,false,false,some [.agg [lV 560 (some gE) (m.an.map Edge.v).length,.sl 561 gF 0 (m.ah.map ar.v).length,lV 562 ow0 (m.ways.map Way.v).length,.sl 563 gP 0 (m.aw.map Place.v).length]]⟩):: (208,⟨fJ,4,false,false,some [.agg [lV 210 og L.length,.nils,lV 562 ow0 (m.ways.map Way.v).length,.sl 563 gP 0 (m.aw.map Place.v).length]]⟩)::lR 560 4 (some gE) (m.an.map Edge.v)++(561,⟨gF,5,true,false,some (m.ah.map ar.v)⟩):: (lR 562 8 ow0 (m.ways.map Way.v)++(563,⟨gP,7,true,false,some (m.aw.map Place.v)⟩):: (lR 210 4 og (L.map Edge.v)))⟩ ⟨T',O'⟩→Q .normal ⟨T',O'⟩):
  gY E kb ⟨[(1,vi a),(2,vi b),(6,.ptr 112 g6 0 0),(9,.ptr 160 g9 0 0),(11,.ptr 192 dK 0 0),(12,.ptr 208 fJ 0 0),(13,aF k)],(112,⟨g6,4,false,false,some [aG.zero.v]⟩):: (160,⟨g9,5,false,false,some [f.v]⟩):: (192,⟨dK,4,false,false,some [.agg [lV 560 (some gE) (m.an.map Edge.v).length,.sl 561 gF 0 (m.ah.map ar.v).length,lV 562 ow0 (m.ways.map Way.v).length,.sl 563 gP 0 (m.aw.map Place.v).length]]⟩):: (208,⟨fJ,4,false,false,some [.agg [lV 210 og L.length,.nils,lV 562 ow0 (m.ways.map Way.v).length,.sl 563 gP 0 (m.aw.map Place.v).length]]⟩)::lR 560 4 (some gE) (m.an.map Edge.v)++(561,⟨gF,5,true,false,some (m.ah.map ar.v)⟩):: (lR 562 8 ow0 (m.ways.map Way.v)++(563,⟨gP,7,true,false,some (m.aw.map Place.v)⟩):: (lR 210 4 og (L.map Edge.v)))⟩ Q:=by
 have ky:=nY ht
 clear ht
 cases og<;>cases ow0<;>rcases ky with⟨h1,h2⟩ | ⟨h1,h2,h3,h4⟩ | ⟨h1,h3,h4⟩
 all_goals
  (conv=>whnf);repeat' ((first| intro g| refine aH.mk _ (hx) ?_| refine st ?_| (first| refine b1 ?_ ?_| refine b2 ?_ ?_| refine Br.mk ?_ ?_) <;>intro hc| exact rfl) <;>conv=>whnf)
  exact hQ _ _ (by(refine⟨?_,?_⟩ <;>repeat' (first| exact True.intro| refine ai ?_| refine And.intro ?_ ?_)))
set_option maxHeartbeats 4000000 in
theorem QE {m:aG} {a b:Int} {f:ar} {g6 g9 dK fJ gF gP n k:Nat} {og ow0:Option Nat} {gE:Nat} {e:Edge} {L:List Edge} {Q:aW→SS→Prop} (hx: (m.an.map Edge.v)[k]? =some e.v) (hn:m.an.length=n) (hk:k<n) (hb:n< 1000) (hL:L.length≤k) (gC:og=none→L=[]) (h1:e.left=a) (h2: ¬e.right=b) (h3: ¬e.left=b) (h4:e.right=a)
  (hQ: ∀T' O' g',SS.Sub ⟨[(1,vi a),(2,vi b),(6,.ptr 112 g6 0 0),(9,.ptr 160 g9 0 0),(11,.ptr 192 dK 0 0),(12,.ptr 208 fJ 0 0),(13,aF (k+1))],(112,⟨g6,4,false,false,some [aG.zero.v]⟩):: (160,⟨g9,5,false,false,some [f.v]⟩):: (192,⟨dK,4,false,false,some [.agg [lV 560 (some gE) (m.an.map Edge.v).length,.sl 561 gF 0 (m.ah.map ar.v).length,lV 562 ow0 (m.ways.map Way.v).length,.sl 563 gP 0 (m.aw.map Place.v).length]]⟩):: (208,⟨fJ,4,false,false,some [.agg [.sl 210 g' 0 (L++[b6 a b e]).length,.nils,lV 562 ow0 (m.ways.map Way.v).length,.sl 563 gP 0 (m.aw.map Place.v).length]]⟩)::lR 560 4 (some gE) (m.an.map Edge.v)++(561,⟨gF,5,true,false,some (m.ah.map ar.v)⟩):: (lR 562 8 ow0 (m.ways.map Way.v)++(563,⟨gP,7,true,false,some (m.aw.map Place.v)⟩):: ([(210,⟨g',4,true,false,some ((L++[b6 a b e]).map Edge.v)⟩)]))⟩ ⟨T',O'⟩→Q .normal ⟨T',O'⟩):
  gY E kb ⟨[(1,vi a),(2,vi b),(6,.ptr 112 g6 0 0),(9,.ptr 160 g9 0 0),(11,.ptr 192 dK 0 0),(12,.ptr 208 fJ 0 0),(13,aF k)],(112,⟨g6,4,false,false,some [aG.zero.v]⟩):: (160,⟨g9,5,false,false,some [f.v]⟩):: (192,⟨dK,4,false,false,some [.agg [lV 560 (some gE) (m.an.map Edge.v).length,.sl 561 gF 0 (m.ah.map ar.v).length,lV 562 ow0 (m.ways.map Way.v).length,.sl 563 gP 0 (m.aw.map Place.v).length]]⟩):: (208,⟨fJ,4,false,false,some [.agg [lV 210 og L.length,.nils,lV 562 ow0 (m.ways.map Way.v).length,.sl 563 gP 0 (m.aw.map Place.v).length]]⟩)::lR 560 4 (some gE) (m.an.map Edge.v)++(561,⟨gF,5,true,false,some (m.ah.map ar.v)⟩):: (lR 562 8 ow0 (m.ways.map Way.v)++(563,⟨gP,7,true,false,some (m.aw.map Place.v)⟩):: (lR 210 4 og (L.map Edge.v)))⟩ Q:=by
 have rK:b6 a b e=⟨e.id,e.line,b,b⟩:=by
  unfold b6 df
  first| rw[if_pos h1] | rw[if_neg h1]
  first| rw[if_pos h4] | rw[if_neg h4]
 rw[rK] at hQ
 clear rK
 cases og<;>cases ow0
 all_goals
  try (have:=gC rfl;subst this)
  (conv=>whnf);repeat' ((first| intro g| refine aH.mk _ (hx) ?_| refine st ?_| (first| refine b1 ?_ ?_| refine b2 ?_ ?_| refine Br.mk ?_ ?_) <;>intro hc| exact rfl) <;>conv=>whnf)
  exact hQ _ _ _ (by(refine⟨?_,?_⟩ <;>repeat' (first| exact True.intro| refine ai ?_| refine And.intro ?_ ?_)))
set_option maxHeartbeats 4000000 in
theorem QF {m:aG} {a b:Int} {f:ar} {g6 g9 dK fJ gF gP n k:Nat} {og ow0:Option Nat} {gE:Nat} {e:Edge} {L:List Edge} {Q:aW→SS→Prop} (hx: (m.an.map Edge.v)[k]? =some e.v) (hn:m.an.length=n) (hk:k<n) (hb:n< 1000) (hL:L.length≤k) (gC:og=none→L=[]) (h1:e.left=a) (h2: ¬e.right=b) (h3: ¬e.left=b) (h4: ¬e.right=a)
  (hQ: ∀T' O' g',SS.Sub ⟨[(1,vi a),(2,vi b),(6,.ptr 112 g6 0 0),(9,.ptr 160 g9 0 0),(11,.ptr 192 dK 0 0),(12,.ptr 208 fJ 0 0),(13,aF (k+1))],(112,⟨g6,4,false,false,some [aG.zero.v]⟩):: (160,⟨g9,5,false,false,some [f.v]⟩):: (192,⟨dK,4,false,false,some [.agg [lV 560 (some gE) (m.an.map Edge.v).length,.sl 561 gF 0 (m.ah.map ar.v).length,lV 562 ow0 (m.ways.map Way.v).length,.sl 563 gP 0 (m.aw.map Place.v).length]]⟩):: (208,⟨fJ,4,false,false,some [.agg [.sl 210 g' 0 (L++[b6 a b e]).length,.nils,lV 562 ow0 (m.ways.map Way.v).length,.sl 563 gP 0 (m.aw.map Place.v).length]]⟩)::lR 560 4 (some gE) (m.an.map Edge.v)++(561,⟨gF,5,true,false,some (m.ah.map ar.v)⟩):: (lR 562 8 ow0 (m.ways.map Way.v)++(563,⟨gP,7,true,false,some (m.aw.map Place.v)⟩):: ([(210,⟨g',4,true,false,some ((L++[b6 a b e]).map Edge.v)⟩)]))⟩ ⟨T',O'⟩→Q .normal ⟨T',O'⟩):
  gY E kb ⟨[(1,vi a),(2,vi b),(6,.ptr 112 g6 0 0),(9,.ptr 160 g9 0 0),(11,.ptr 192 dK 0 0),(12,.ptr 208 fJ 0 0),(13,aF k)],(112,⟨g6,4,false,false,some [aG.zero.v]⟩):: (160,⟨g9,5,false,false,some [f.v]⟩):: (192,⟨dK,4,false,false,some [.agg [lV 560 (some gE) (m.an.map Edge.v).length,.sl 561 gF 0 (m.ah.map ar.v).length,lV 562 ow0 (m.ways.map Way.v).length,.sl 563 gP 0 (m.aw.map Place.v).length]]⟩):: (208,⟨fJ,4,false,false,some [.agg [lV 210 og L.length,.nils,lV 562 ow0 (m.ways.map Way.v).length,.sl 563 gP 0 (m.aw.map Place.v).length]]⟩)::lR 560 4 (some gE) (m.an.map Edge.v)++(561,⟨gF,5,true,false,some (m.ah.map ar.v)⟩):: (lR 562 8 ow0 (m.ways.map Way.v)++(563,⟨gP,7,true,false,some (m.aw.map Place.v)⟩):: (lR 210 4 og (L.map Edge.v)))⟩ Q:=by
 have rK:b6 a b e=⟨e.id,e.line,b,e.right⟩:=by
  unfold b6 df
  first| rw[if_pos h1] | rw[if_neg h1]
  first| rw[if_pos h4] | rw[if_neg h4]
 rw[rK] at hQ
 clear rK
 cases og<;>cases ow0
 all_goals
  try (have:=gC rfl;subst this)
  (conv=>whnf);repeat' ((first| intro g| refine aH.mk _ (hx) ?_| refine st ?_| (first| refine b1 ?_ ?_| refine b2 ?_ ?_| refine Br.mk ?_ ?_) <;>intro hc| exact rfl) <;>conv=>whnf)
  exact hQ _ _ _ (by(refine⟨?_,?_⟩ <;>repeat' (first| exact True.intro| refine ai ?_| refine And.intro ?_ ?_)))
set_option maxHeartbeats 4000000 in
theorem QG {m:aG} {a b:Int} {f:ar} {g6 g9 dK fJ gF gP n k:Nat} {og ow0:Option Nat} {gE:Nat} {e:Edge} {L:List Edge} {Q:aW→SS→Prop} (hx: (m.an.map Edge.v)[k]? =some e.v) (hn:m.an.length=n) (hk:k<n) (hb:n< 1000) (hL:L.length≤k) (gC:og=none→L=[]) (h1: ¬e.left=a) (h3:e.left=b) (h4: ¬e.right=a)
  (hQ: ∀T' O' g',SS.Sub ⟨[(1,vi a),(2,vi b),(6,.ptr 112 g6 0 0),(9,.ptr 160 g9 0 0),(11,.ptr 192 dK 0 0),(12,.ptr 208 fJ 0 0),(13,aF (k+1))],(112,⟨g6,4,false,false,some [aG.zero.v]⟩):: (160,⟨g9,5,false,false,some [f.v]⟩):: (192,⟨dK,4,false,false,some [.agg [lV 560 (some gE) (m.an.map Edge.v).length,.sl 561 gF 0 (m.ah.map ar.v).length,lV 562 ow0 (m.ways.map Way.v).length,.sl 563 gP 0 (m.aw.map Place.v).length]]⟩):: (208,⟨fJ,4,false,false,some [.agg [.sl 210 g' 0 (L++[b6 a b e]).length,.nils,lV 562 ow0 (m.ways.map Way.v).length,.sl 563 gP 0 (m.aw.map Place.v).length]]⟩)::lR 560 4 (some gE) (m.an.map Edge.v)++(561,⟨gF,5,true,false,some (m.ah.map ar.v)⟩):: (lR 562 8 ow0 (m.ways.map Way.v)++(563,⟨gP,7,true,false,some (m.aw.map Place.v)⟩):: ([(210,⟨g',4,true,false,some ((L++[b6 a b e]).map Edge.v)⟩)]))⟩ ⟨T',O'⟩→Q .normal ⟨T',O'⟩):
  gY E kb ⟨[(1,vi a),(2,vi b),(6,.ptr 112 g6 0 0),(9,.ptr 160 g9 0 0),(11,.ptr 192 dK 0 0),(12,.ptr 208 fJ 0 0),(13,aF k)],(112,⟨g6,4,false,false,some [aG.zero.v]⟩):: (160,⟨g9,5,false,false,some [f.v]⟩):: (192,⟨dK,4,false,false,some [.agg [lV 560 (some gE) (m.an.map Edge.v).length,.sl 561 gF 0 (m.ah.map ar.v).length,lV 562 ow0 (m.ways.map Way.v).length,.sl 563 gP 0 (m.aw.map Place.v).length]]⟩):: (208,⟨fJ,4,false,false,some [.agg [lV 210 og L.length,.nils,lV 562 ow0 (m.ways.map Way.v).length,.sl 563 gP 0 (m.aw.map Place.v).length]]⟩)::lR 560 4 (some gE) (m.an.map Edge.v)++(561,⟨gF,5,true,false,some (m.ah.map ar.v)⟩):: (lR 562 8 ow0 (m.ways.map Way.v)++(563,⟨gP,7,true,false,some (m.aw.map Place.v)⟩):: (lR 210 4 og (L.map Edge.v)))⟩ Q:=by
 have rK:b6 a b e=⟨e.id,e.line,e.left,e.right⟩:=by
  unfold b6 df
  first| rw[if_pos h1] | rw[if_neg h1]
  first| rw[if_pos h4] | rw[if_neg h4]
 rw[rK] at hQ
 clear rK
 cases og<;>cases ow0
 all_goals
  try (have:=gC rfl;subst this)
  (conv=>whnf);repeat' ((first| intro g| refine aH.mk _ (hx) ?_| refine st ?_| (first| refine b1 ?_ ?_| refine b2 ?_ ?_| refine Br.mk ?_ ?_) <;>intro hc| exact rfl) <;>conv=>whnf)
  exact hQ _ _ _ (by(refine⟨?_,?_⟩ <;>repeat' (first| exact True.intro| refine ai ?_| refine And.intro ?_ ?_)))
set_option maxHeartbeats 4000000 in
theorem QH {m:aG} {a b:Int} {f:ar} {g6 g9 dK fJ gF gP n k:Nat} {og ow0:Option Nat} {gE:Nat} {e:Edge} {L:List Edge} {Q:aW→SS→Prop} (hx: (m.an.map Edge.v)[k]? =some e.v) (hn:m.an.length=n) (hk:k<n) (hb:n< 1000) (hL:L.length≤k) (gC:og=none→L=[]) (h1: ¬e.left=a) (h3: ¬e.left=b) (h4:e.right=a)
  (hQ: ∀T' O' g',SS.Sub ⟨[(1,vi a),(2,vi b),(6,.ptr 112 g6 0 0),(9,.ptr 160 g9 0 0),(11,.ptr 192 dK 0 0),(12,.ptr 208 fJ 0 0),(13,aF (k+1))],(112,⟨g6,4,false,false,some [aG.zero.v]⟩):: (160,⟨g9,5,false,false,some [f.v]⟩):: (192,⟨dK,4,false,false,some [.agg [lV 560 (some gE) (m.an.map Edge.v).length,.sl 561 gF 0 (m.ah.map ar.v).length,lV 562 ow0 (m.ways.map Way.v).length,.sl 563 gP 0 (m.aw.map Place.v).length]]⟩):: (208,⟨fJ,4,false,false,some [.agg [.sl 210 g' 0 (L++[b6 a b e]).length,.nils,lV 562 ow0 (m.ways.map Way.v).length,.sl 563 gP 0 (m.aw.map Place.v).length]]⟩)::lR 560 4 (some gE) (m.an.map Edge.v)++(561,⟨gF,5,true,false,some (m.ah.map ar.v)⟩):: (lR 562 8 ow0 (m.ways.map Way.v)++(563,⟨gP,7,true,false,some (m.aw.map Place.v)⟩):: ([(210,⟨g',4,true,false,some ((L++[b6 a b e]).map Edge.v)⟩)]))⟩ ⟨T',O'⟩→Q .normal ⟨T',O'⟩):
  gY E kb ⟨[(1,vi a),(2,vi b),(6,.ptr 112 g6 0 0),(9,.ptr 160 g9 0 0),(11,.ptr 192 dK 0 0),(12,.ptr 208 fJ 0 0),(13,aF k)],(112,⟨g6,4,false,false,some [aG.zero.v]⟩):: (160,⟨g9,5,false,false,some [f.v]⟩):: (192,⟨dK,4,false,false,some [.agg [lV 560 (some gE) (m.an.map Edge.v).length,.sl 561 gF 0 (m.ah.map ar.v).length,lV 562 ow0 (m.ways.map Way.v).length,.sl 563 gP 0 (m.aw.map Place.v).length]]⟩):: (208,⟨fJ,4,false,false,some [.agg [lV 210 og L.length,.nils,lV 562 ow0 (m.ways.map Way.v).length,.sl 563 gP 0 (m.aw.map Place.v).length]]⟩)::lR 560 4 (some gE) (m.an.map Edge.v)++(561,⟨gF,5,true,false,some (m.ah.map ar.v)⟩):: (lR 562 8 ow0 (m.ways.map Way.v)++(563,⟨gP,7,true,false,some (m.aw.map Place.v)⟩):: (lR 210 4 og (L.map Edge.v)))⟩ Q:=by
 have rK:b6 a b e=⟨e.id,e.line,e.left,b⟩:=by
  unfold b6 df
  first| rw[if_pos h1] | rw[if_neg h1]
  first| rw[if_pos h4] | rw[if_neg h4]
 rw[rK] at hQ
 clear rK
 cases og<;>cases ow0
 all_goals
  try (have:=gC rfl;subst this)
  (conv=>whnf);repeat' ((first| intro g| refine aH.mk _ (hx) ?_| refine st ?_| (first| refine b1 ?_ ?_| refine b2 ?_ ?_| refine Br.mk ?_ ?_) <;>intro hc| exact rfl) <;>conv=>whnf)
  exact hQ _ _ _ (by(refine⟨?_,?_⟩ <;>repeat' (first| exact True.intro| refine ai ?_| refine And.intro ?_ ?_)))
set_option maxHeartbeats 4000000 in
theorem QI {m:aG} {a b:Int} {f:ar} {g6 g9 dK fJ gF gP n k:Nat} {og ow0:Option Nat} {gE:Nat} {e:Edge} {L:List Edge} {Q:aW→SS→Prop} (hx: (m.an.map Edge.v)[k]? =some e.v) (hn:m.an.length=n) (hk:k<n) (hb:n< 1000) (hL:L.length≤k) (gC:og=none→L=[]) (h1: ¬e.left=a) (h3: ¬e.left=b) (h4: ¬e.right=a)
  (hQ: ∀T' O' g',SS.Sub ⟨[(1,vi a),(2,vi b),(6,.ptr 112 g6 0 0),(9,.ptr 160 g9 0 0),(11,.ptr 192 dK 0 0),(12,.ptr 208 fJ 0 0),(13,aF (k+1))],(112,⟨g6,4,false,false,some [aG.zero.v]⟩):: (160,⟨g9,5,false,false,some [f.v]⟩):: (192,⟨dK,4,false,false,some [.agg [lV 560 (some gE) (m.an.map Edge.v).length,.sl 561 gF 0 (m.ah.map ar.v).length,lV 562 ow0 (m.ways.map Way.v).length,.sl 563 gP 0 (m.aw.map Place.v).length]]⟩):: (208,⟨fJ,4,false,false,some [.agg [.sl 210 g' 0 (L++[b6 a b e]).length,.nils,lV 562 ow0 (m.ways.map Way.v).length,.sl 563 gP 0 (m.aw.map Place.v).length]]⟩)::lR 560 4 (some gE) (m.an.map Edge.v)++(561,⟨gF,5,true,false,some (m.ah.map ar.v)⟩):: (lR 562 8 ow0 (m.ways.map Way.v)++(563,⟨gP,7,true,false,some (m.aw.map Place.v)⟩):: ([(210,⟨g',4,true,false,some ((L++[b6 a b e]).map Edge.v)⟩)]))⟩ ⟨T',O'⟩→Q .normal ⟨T',O'⟩):
  gY E kb ⟨[(1,vi a),(2,vi b),(6,.ptr 112 g6 0 0),(9,.ptr 160 g9 0 0),(11,.ptr 192 dK 0 0),(12,.ptr 208 fJ 0 0),(13,aF k)],(112,⟨g6,4,false,false,some [aG.zero.v]⟩):: (160,⟨g9,5,false,false,some [f.v]⟩):: (192,⟨dK,4,false,false,some [.agg [lV 560 (some gE) (m.an.map Edge.v).length,.sl 561 gF 0 (m.ah.map ar.v).length,lV 562 ow0 (m.ways.map Way.v).length,.sl 563 gP 0 (m.aw.map Place.v).length]]⟩):: (208,⟨fJ,4,false,false,some [.agg [lV 210 og L.length,.nils,lV 562 ow0 (m.ways.map Way.v).length,.sl 563 gP 0 (m.aw.map Place.v).length]]⟩)::lR 560 4 (some gE) (m.an.map Edge.v)++(561,⟨gF,5,true,false,some (m.ah.map ar.v)⟩):: (lR 562 8 ow0 (m.ways.map Way.v)++(563,⟨gP,7,true,false,some (m.aw.map Place.v)⟩):: (lR 210 4 og (L.map Edge.v)))⟩ Q:=by
 have rK:b6 a b e=⟨e.id,e.line,e.left,e.right⟩:=by
  unfold b6 df
  first| rw[if_pos h1] | rw[if_neg h1]
  first| rw[if_pos h4] | rw[if_neg h4]
 rw[rK] at hQ
 clear rK
 cases og<;>cases ow0
 all_goals
  try (have:=gC rfl;subst this)
  (conv=>whnf);repeat' ((first| intro g| refine aH.mk _ (hx) ?_| refine st ?_| (first| refine b1 ?_ ?_| refine b2 ?_ ?_| refine Br.mk ?_ ?_) <;>intro hc| exact rfl) <;>conv=>whnf)
  exact hQ _ _ _ (by(refine⟨?_,?_⟩ <;>repeat' (first| exact True.intro| refine ai ?_| refine And.intro ?_ ?_)))
theorem Cg {m:aG} {a b:Int} {f:ar} {g6 g9 dK fJ gF gP n k:Nat} {og ow0:Option Nat} {gE:Nat} {e:Edge} {L:List Edge} {Q:aW→SS→Prop} (hx: (m.an.map Edge.v)[k]? =some e.v) (hn:m.an.length=n) (hk:k<n) (hb:n< 1000) (hL:L.length≤k) (gC:og=none→L=[]) (py:a≠b) (ht:b9 a b e=false)
   (hQ: ∀T' O' g',SS.Sub ⟨[(1,vi a),(2,vi b),(6,.ptr 112 g6 0 0),(9,.ptr 160 g9 0 0),(11,.ptr 192 dK 0 0),(12,.ptr 208 fJ 0 0),(13,aF (k+1))],(112,⟨g6,4,false,false,some [aG.zero.v]⟩):: (160,⟨g9,5,false,false,some [f.v]⟩):: (192,⟨dK,4,false,false,some [.agg [lV 560 (some gE) (m.an.map Edge.v).length,.sl 561 gF 0 (m.ah.map ar.v).length,lV 562 ow0 (m.ways.map Way.v).length,.sl 563 gP 0 (m.aw.map Place.v).length]]⟩):: (208,⟨fJ,4,false,false,some [.agg [.sl 210 g' 0 (L++[b6 a b e]).length,.nils,lV 562 ow0 (m.ways.map Way.v).length,.sl 563 gP 0 (m.aw.map Place.v).length]]⟩)::lR 560 4 (some gE) (m.an.map Edge.v)++(561,⟨gF,5,true,false,some (m.ah.map ar.v)⟩):: (lR 562 8 ow0 (m.ways.map Way.v)++(563,⟨gP,7,true,false,some (m.aw.map Place.v)⟩):: ([(210,⟨g',4,true,false,some ((L++[b6 a b e]).map Edge.v)⟩)]))⟩ ⟨T',O'⟩→Q .normal ⟨T',O'⟩):
   gY E kb ⟨[(1,vi a),(2,vi b),(6,.ptr 112 g6 0 0),(9,.ptr 160 g9 0 0),(11,.ptr 192 dK 0 0),(12,.ptr 208 fJ 0 0),(13,aF k)],(112,⟨g6,4,false,false,some [aG.zero.v]⟩):: (160,⟨g9,5,false,false,some [f.v]⟩):: (192,⟨dK,4,false,false,some [.agg [lV 560 (some gE) (m.an.map Edge.v).length,.sl 561 gF 0 (m.ah.map ar.v).length,lV 562 ow0 (m.ways.map Way.v).length,.sl 563 gP 0 (m.aw.map Place.v).length]]⟩):: (208,⟨fJ,4,false,false,some [.agg [lV 210 og L.length,.nils,lV 562 ow0 (m.ways.map Way.v).length,.sl 563 gP 0 (m.aw.map Place.v).length]]⟩)::lR 560 4 (some gE) (m.an.map Edge.v)++(561,⟨gF,5,true,false,some (m.ah.map ar.v)⟩):: (lR 562 8 ow0 (m.ways.map Way.v)++(563,⟨gP,7,true,false,some (m.aw.map Place.v)⟩):: (lR 210 4 og (L.map Edge.v)))⟩ Q:=by
 have ky: ¬ (e.left=a∧e.right=b∨e.left=b∧e.right=a):=by simpa [b9] using ht
 by_cases h1:e.left=a
 · have h2: ¬e.right=b:=fun h=>ky (.inl ⟨h1,h⟩)
   have h3: ¬e.left=b:=fun h=>py (h1.symm.trans h)
   by_cases h4:e.right=a
   · exact QE hx hn hk hb hL gC h1 h2 h3 h4 hQ
   · exact QF hx hn hk hb hL gC h1 h2 h3 h4 hQ
 · by_cases h3:e.left=b
   · exact QG hx hn hk hb hL gC h1 h3 (fun h=>ky (.inr ⟨h3,h⟩)) hQ
   · by_cases h4:e.right=a
     · exact QH hx hn hk hb hL gC h1 h3 h4 hQ
     · exact QI hx hn hk hb hL gC h1 h3 h4 hQ
set_option maxHeartbeats 4000000 in
theorem q7 {m:aG} {a b:Int} {f x:ar} {g6 g9 dK fJ gF gP n k ne:Nat} {gn dn:Bool} {og oe oe0 ow0:Option Nat} {es:List V} {L:List ar} {Q:aW→SS→Prop} (hx: (m.ah.map ar.v)[k]? =some x.v) (hn:m.ah.length=n) (hk:k<n) (hb:n< 1000) (hL:L.length≤k) (gC:og=none→L=[]) (h1:x.id=a)
  (hQ: ∀T' O',SS.Sub ⟨[(1,vi a),(2,vi b),(6,.ptr 112 g6 0 0),(9,.ptr 160 g9 0 0),(11,.ptr 192 dK 0 0),(12,.ptr 208 fJ 0 0),(15,.bool true),(16,.bool dn),(17,aF (k+1))],(112,⟨g6,4,false,false,some [aG.zero.v]⟩):: (160,⟨g9,5,false,false,some [f.v]⟩):: (192,⟨dK,4,false,false,some [.agg [lV 560 oe0 (m.an.map Edge.v).length,.sl 561 gF 0 (m.ah.map ar.v).length,lV 562 ow0 (m.ways.map Way.v).length,.sl 563 gP 0 (m.aw.map Place.v).length]]⟩):: (208,⟨fJ,4,false,false,some [.agg [lV 210 oe ne,lV 211 og L.length,lV 562 ow0 (m.ways.map Way.v).length,.sl 563 gP 0 (m.aw.map Place.v).length]]⟩)::lR 560 4 oe0 (m.an.map Edge.v)++(561,⟨gF,5,true,false,some (m.ah.map ar.v)⟩):: (lR 562 8 ow0 (m.ways.map Way.v)++(563,⟨gP,7,true,false,some (m.aw.map Place.v)⟩):: (lR 211 5 og (L.map ar.v)++lR 210 4 oe es))⟩ ⟨T',O'⟩→Q .normal ⟨T',O'⟩):
  gY E lL ⟨[(1,vi a),(2,vi b),(6,.ptr 112 g6 0 0),(9,.ptr 160 g9 0 0),(11,.ptr 192 dK 0 0),(12,.ptr 208 fJ 0 0),(15,.bool false),(16,.bool dn),(17,aF k)],(112,⟨g6,4,false,false,some [aG.zero.v]⟩):: (160,⟨g9,5,false,false,some [f.v]⟩):: (192,⟨dK,4,false,false,some [.agg [lV 560 oe0 (m.an.map Edge.v).length,.sl 561 gF 0 (m.ah.map ar.v).length,lV 562 ow0 (m.ways.map Way.v).length,.sl 563 gP 0 (m.aw.map Place.v).length]]⟩):: (208,⟨fJ,4,false,false,some [.agg [lV 210 oe ne,lV 211 og L.length,lV 562 ow0 (m.ways.map Way.v).length,.sl 563 gP 0 (m.aw.map Place.v).length]]⟩)::lR 560 4 oe0 (m.an.map Edge.v)++(561,⟨gF,5,true,false,some (m.ah.map ar.v)⟩):: (lR 562 8 ow0 (m.ways.map Way.v)++(563,⟨gP,7,true,false,some (m.aw.map Place.v)⟩):: (lR 211 5 og (L.map ar.v)++lR 210 4 oe es))⟩ Q:=by
 cases og<;>cases oe<;>cases oe0<;>cases ow0
 all_goals
  (conv=>whnf);repeat' ((first| intro g| refine aH.mk _ (hx) ?_| refine st ?_| (first| refine b1 ?_ ?_| refine b2 ?_ ?_| refine Br.mk ?_ ?_) <;>intro hc| exact rfl) <;>conv=>whnf)
  exact hQ _ _ (by(refine⟨?_,?_⟩ <;>repeat' (first| exact True.intro| refine ai ?_| refine And.intro ?_ ?_)))
set_option maxHeartbeats 4000000 in
theorem ot {m:aG} {a b:Int} {f x:ar} {g6 g9 dK fJ gF gP n k ne:Nat} {gn dn:Bool} {og oe oe0 ow0:Option Nat} {es:List V} {L:List ar} {Q:aW→SS→Prop} (hx: (m.ah.map ar.v)[k]? =some x.v) (hn:m.ah.length=n) (hk:k<n) (hb:n< 1000) (hL:L.length≤k) (gC:og=none→L=[]) (h1: ¬x.id=a) (h2: ¬x.id=b)
  (hQ: ∀T' O' g',SS.Sub ⟨[(1,vi a),(2,vi b),(6,.ptr 112 g6 0 0),(9,.ptr 160 g9 0 0),(11,.ptr 192 dK 0 0),(12,.ptr 208 fJ 0 0),(15,.bool gn),(16,.bool dn),(17,aF (k+1))],(112,⟨g6,4,false,false,some [aG.zero.v]⟩):: (160,⟨g9,5,false,false,some [f.v]⟩):: (192,⟨dK,4,false,false,some [.agg [lV 560 oe0 (m.an.map Edge.v).length,.sl 561 gF 0 (m.ah.map ar.v).length,lV 562 ow0 (m.ways.map Way.v).length,.sl 563 gP 0 (m.aw.map Place.v).length]]⟩):: (208,⟨fJ,4,false,false,some [.agg [lV 210 oe ne,.sl 211 g' 0 (L++[x]).length,lV 562 ow0 (m.ways.map Way.v).length,.sl 563 gP 0 (m.aw.map Place.v).length]]⟩)::lR 560 4 oe0 (m.an.map Edge.v)++(561,⟨gF,5,true,false,some (m.ah.map ar.v)⟩):: (lR 562 8 ow0 (m.ways.map Way.v)++(563,⟨gP,7,true,false,some (m.aw.map Place.v)⟩):: ([(211,⟨g',5,true,false,some ((L++[x]).map ar.v)⟩)]++lR 210 4 oe es))⟩ ⟨T',O'⟩→Q .normal ⟨T',O'⟩):
  gY E lL ⟨[(1,vi a),(2,vi b),(6,.ptr 112 g6 0 0),(9,.ptr 160 g9 0 0),(11,.ptr 192 dK 0 0),(12,.ptr 208 fJ 0 0),(15,.bool gn),(16,.bool dn),(17,aF k)],(112,⟨g6,4,false,false,some [aG.zero.v]⟩):: (160,⟨g9,5,false,false,some [f.v]⟩):: (192,⟨dK,4,false,false,some [.agg [lV 560 oe0 (m.an.map Edge.v).length,.sl 561 gF 0 (m.ah.map ar.v).length,lV 562 ow0 (m.ways.map Way.v).length,.sl 563 gP 0 (m.aw.map Place.v).length]]⟩):: (208,⟨fJ,4,false,false,some [.agg [lV 210 oe ne,lV 211 og L.length,lV 562 ow0 (m.ways.map Way.v).length,.sl 563 gP 0 (m.aw.map Place.v).length]]⟩)::lR 560 4 oe0 (m.an.map Edge.v)++(561,⟨gF,5,true,false,some (m.ah.map ar.v)⟩):: (lR 562 8 ow0 (m.ways.map Way.v)++(563,⟨gP,7,true,false,some (m.aw.map Place.v)⟩):: (lR 211 5 og (L.map ar.v)++lR 210 4 oe es))⟩ Q:=by
 cases og<;>cases oe<;>cases oe0<;>cases ow0
 all_goals
  try (have:=gC rfl;subst this)
  (conv=>whnf);repeat' ((first| intro g| refine aH.mk _ (hx) ?_| refine st ?_| (first| refine b1 ?_ ?_| refine b2 ?_ ?_| refine Br.mk ?_ ?_) <;>intro hc| exact rfl) <;>conv=>whnf)
  exact hQ _ _ _ (by(refine⟨?_,?_⟩ <;>repeat' (first| exact True.intro| refine ai ?_| refine And.intro ?_ ?_)))
set_option maxHeartbeats 4000000 in
theorem ou {m:aG} {a b:Int} {f x:ar} {g6 g9 dK fJ gF gP n k ne:Nat} {gn dn:Bool} {og oe oe0 ow0:Option Nat} {es:List V} {L:List ar} {Q:aW→SS→Prop} (hx: (m.ah.map ar.v)[k]? =some x.v) (hn:m.ah.length=n) (hk:k<n) (hb:n< 1000) (hL:L.length≤k) (gC:og=none→L=[]) (h1:x.id=a) (h2: ¬x.id=b)
  (hQ: ∀T' O' g',SS.Sub ⟨[(1,vi a),(2,vi b),(6,.ptr 112 g6 0 0),(9,.ptr 160 g9 0 0),(11,.ptr 192 dK 0 0),(12,.ptr 208 fJ 0 0),(15,.bool true),(16,.bool dn),(17,aF (k+1))],(112,⟨g6,4,false,false,some [aG.zero.v]⟩):: (160,⟨g9,5,false,false,some [f.v]⟩):: (192,⟨dK,4,false,false,some [.agg [lV 560 oe0 (m.an.map Edge.v).length,.sl 561 gF 0 (m.ah.map ar.v).length,lV 562 ow0 (m.ways.map Way.v).length,.sl 563 gP 0 (m.aw.map Place.v).length]]⟩):: (208,⟨fJ,4,false,false,some [.agg [lV 210 oe ne,.sl 211 g' 0 (L++[x]).length,lV 562 ow0 (m.ways.map Way.v).length,.sl 563 gP 0 (m.aw.map Place.v).length]]⟩)::lR 560 4 oe0 (m.an.map Edge.v)++(561,⟨gF,5,true,false,some (m.ah.map ar.v)⟩):: (lR 562 8 ow0 (m.ways.map Way.v)++(563,⟨gP,7,true,false,some (m.aw.map Place.v)⟩):: ([(211,⟨g',5,true,false,some ((L++[x]).map ar.v)⟩)]++lR 210 4 oe es))⟩ ⟨T',O'⟩→Q .normal ⟨T',O'⟩):
  gY E lL ⟨[(1,vi a),(2,vi b),(6,.ptr 112 g6 0 0),(9,.ptr 160 g9 0 0),(11,.ptr 192 dK 0 0),(12,.ptr 208 fJ 0 0),(15,.bool true),(16,.bool dn),(17,aF k)],(112,⟨g6,4,false,false,some [aG.zero.v]⟩):: (160,⟨g9,5,false,false,some [f.v]⟩):: (192,⟨dK,4,false,false,some [.agg [lV 560 oe0 (m.an.map Edge.v).length,.sl 561 gF 0 (m.ah.map ar.v).length,lV 562 ow0 (m.ways.map Way.v).length,.sl 563 gP 0 (m.aw.map Place.v).length]]⟩):: (208,⟨fJ,4,false,false,some [.agg [lV 210 oe ne,lV 211 og L.length,lV 562 ow0 (m.ways.map Way.v).length,.sl 563 gP 0 (m.aw.map Place.v).length]]⟩)::lR 560 4 oe0 (m.an.map Edge.v)++(561,⟨gF,5,true,false,some (m.ah.map ar.v)⟩):: (lR 562 8 ow0 (m.ways.map Way.v)++(563,⟨gP,7,true,false,some (m.aw.map Place.v)⟩):: (lR 211 5 og (L.map ar.v)++lR 210 4 oe es))⟩ Q:=by
 cases og<;>cases oe<;>cases oe0<;>cases ow0
 all_goals
  try (have:=gC rfl;subst this)
  (conv=>whnf);repeat' ((first| intro g| refine aH.mk _ (hx) ?_| refine st ?_| (first| refine b1 ?_ ?_| refine b2 ?_ ?_| refine Br.mk ?_ ?_) <;>intro hc| exact rfl) <;>conv=>whnf)
  exact hQ _ _ _ (by(refine⟨?_,?_⟩ <;>repeat' (first| exact True.intro| refine ai ?_| refine And.intro ?_ ?_)))
set_option maxHeartbeats 4000000 in
theorem ov {m:aG} {a b:Int} {f x:ar} {g6 g9 dK fJ gF gP n k ne:Nat} {gn dn:Bool} {og oe oe0 ow0:Option Nat} {es:List V} {L:List ar} {Q:aW→SS→Prop} (hx: (m.ah.map ar.v)[k]? =some x.v) (hn:m.ah.length=n) (hk:k<n) (hb:n< 1000) (hL:L.length≤k) (gC:og=none→L=[]) (h1: ¬x.id=a) (h2:x.id=b)
  (hQ: ∀T' O' g',SS.Sub ⟨[(1,vi a),(2,vi b),(6,.ptr 112 g6 0 0),(9,.ptr 160 g9 0 0),(11,.ptr 192 dK 0 0),(12,.ptr 208 fJ 0 0),(15,.bool gn),(16,.bool true),(17,aF (k+1))],(112,⟨g6,4,false,false,some [aG.zero.v]⟩):: (160,⟨g9,5,false,false,some [f.v]⟩):: (192,⟨dK,4,false,false,some [.agg [lV 560 oe0 (m.an.map Edge.v).length,.sl 561 gF 0 (m.ah.map ar.v).length,lV 562 ow0 (m.ways.map Way.v).length,.sl 563 gP 0 (m.aw.map Place.v).length]]⟩):: (208,⟨fJ,4,false,false,some [.agg [lV 210 oe ne,.sl 211 g' 0 (L++[x]).length,lV 562 ow0 (m.ways.map Way.v).length,.sl 563 gP 0 (m.aw.map Place.v).length]]⟩)::lR 560 4 oe0 (m.an.map Edge.v)++(561,⟨gF,5,true,false,some (m.ah.map ar.v)⟩):: (lR 562 8 ow0 (m.ways.map Way.v)++(563,⟨gP,7,true,false,some (m.aw.map Place.v)⟩):: ([(211,⟨g',5,true,false,some ((L++[x]).map ar.v)⟩)]++lR 210 4 oe es))⟩ ⟨T',O'⟩→Q .normal ⟨T',O'⟩):
  gY E lL ⟨[(1,vi a),(2,vi b),(6,.ptr 112 g6 0 0),(9,.ptr 160 g9 0 0),(11,.ptr 192 dK 0 0),(12,.ptr 208 fJ 0 0),(15,.bool gn),(16,.bool true),(17,aF k)],(112,⟨g6,4,false,false,some [aG.zero.v]⟩):: (160,⟨g9,5,false,false,some [f.v]⟩):: (192,⟨dK,4,false,false,some [.agg [lV 560 oe0 (m.an.map Edge.v).length,.sl 561 gF 0 (m.ah.map ar.v).length,lV 562 ow0 (m.ways.map Way.v).length,.sl 563 gP 0 (m.aw.map Place.v).length]]⟩):: (208,⟨fJ,4,false,false,some [.agg [lV 210 oe ne,lV 211 og L.length,lV 562 ow0 (m.ways.map Way.v).length,.sl 563 gP 0 (m.aw.map Place.v).length]]⟩)::lR 560 4 oe0 (m.an.map Edge.v)++(561,⟨gF,5,true,false,some (m.ah.map ar.v)⟩):: (lR 562 8 ow0 (m.ways.map Way.v)++(563,⟨gP,7,true,false,some (m.aw.map Place.v)⟩):: (lR 211 5 og (L.map ar.v)++lR 210 4 oe es))⟩ Q:=by
 cases og<;>cases oe<;>cases oe0<;>cases ow0
 all_goals
  try (have:=gC rfl;subst this)
  (conv=>whnf);repeat' ((first| intro g| refine aH.mk _ (hx) ?_| refine st ?_| (first| refine b1 ?_ ?_| refine b2 ?_ ?_| refine Br.mk ?_ ?_) <;>intro hc| exact rfl) <;>conv=>whnf)
  exact hQ _ _ _ (by(refine⟨?_,?_⟩ <;>repeat' (first| exact True.intro| refine ai ?_| refine And.intro ?_ ?_)))
set_option maxHeartbeats 4000000 in
theorem ox {m:aG} {a b:Int} {f x:ar} {g6 g9 dK fJ gF gP n k ne:Nat} {gn dn:Bool} {og oe oe0 ow0:Option Nat} {es:List V} {L:List ar} {Q:aW→SS→Prop} (hx: (m.ah.map ar.v)[k]? =some x.v) (hn:m.ah.length=n) (hk:k<n) (hb:n< 1000) (hL:L.length≤k) (gC:og=none→L=[]) (h1: ¬x.id=a) (h2:x.id=b) (h3:x.name=[])
  (hQ: ∀T' O' g',SS.Sub ⟨[(1,vi a),(2,vi b),(6,.ptr 112 g6 0 0),(9,.ptr 160 g9 0 0),(11,.ptr 192 dK 0 0),(12,.ptr 208 fJ 0 0),(15,.bool gn),(16,.bool true),(17,aF (k+1))],(112,⟨g6,4,false,false,some [aG.zero.v]⟩):: (160,⟨g9,5,false,false,some [f.v]⟩):: (192,⟨dK,4,false,false,some [.agg [lV 560 oe0 (m.an.map Edge.v).length,.sl 561 gF 0 (m.ah.map ar.v).length,lV 562 ow0 (m.ways.map Way.v).length,.sl 563 gP 0 (m.aw.map Place.v).length]]⟩):: (208,⟨fJ,4,false,false,some [.agg [lV 210 oe ne,.sl 211 g' 0 (L++[gR x f]).length,lV 562 ow0 (m.ways.map Way.v).length,.sl 563 gP 0 (m.aw.map Place.v).length]]⟩)::lR 560 4 oe0 (m.an.map Edge.v)++(561,⟨gF,5,true,false,some (m.ah.map ar.v)⟩):: (lR 562 8 ow0 (m.ways.map Way.v)++(563,⟨gP,7,true,false,some (m.aw.map Place.v)⟩):: ([(211,⟨g',5,true,false,some ((L++[gR x f]).map ar.v)⟩)]++lR 210 4 oe es))⟩ ⟨T',O'⟩→Q .normal ⟨T',O'⟩):
  gY E lL ⟨[(1,vi a),(2,vi b),(6,.ptr 112 g6 0 0),(9,.ptr 160 g9 0 0),(11,.ptr 192 dK 0 0),(12,.ptr 208 fJ 0 0),(15,.bool gn),(16,.bool false),(17,aF k)],(112,⟨g6,4,false,false,some [aG.zero.v]⟩):: (160,⟨g9,5,false,false,some [f.v]⟩):: (192,⟨dK,4,false,false,some [.agg [lV 560 oe0 (m.an.map Edge.v).length,.sl 561 gF 0 (m.ah.map ar.v).length,lV 562 ow0 (m.ways.map Way.v).length,.sl 563 gP 0 (m.aw.map Place.v).length]]⟩):: (208,⟨fJ,4,false,false,some [.agg [lV 210 oe ne,lV 211 og L.length,lV 562 ow0 (m.ways.map Way.v).length,.sl 563 gP 0 (m.aw.map Place.v).length]]⟩)::lR 560 4 oe0 (m.an.map Edge.v)++(561,⟨gF,5,true,false,some (m.ah.map ar.v)⟩):: (lR 562 8 ow0 (m.ways.map Way.v)++(563,⟨gP,7,true,false,some (m.aw.map Place.v)⟩):: (lR 211 5 og (L.map ar.v)++lR 210 4 oe es))⟩ Q:=by
 generalize hy:gR x f=y at*
 unfold gR EE Hv at hy
 first| rw[if_pos h3] at hy| rw[if_neg h3] at hy
 subst hy
 cases og<;>cases oe<;>cases oe0<;>cases ow0
 all_goals
  try (have:=gC rfl;subst this)
  (conv=>whnf);repeat' ((first| intro g| refine aH.mk _ (hx) ?_| refine st ?_| (first| refine b1 ?_ ?_| refine b2 ?_ ?_| refine Br.mk ?_ ?_) <;>intro hc| exact rfl) <;>conv=>whnf)
  exact hQ _ _ _ (by(refine⟨?_,?_⟩ <;>repeat' (first| exact True.intro| refine ai ?_| refine And.intro ?_ ?_)))
set_option maxHeartbeats 4000000 in
theorem oy {m:aG} {a b:Int} {f x:ar} {g6 g9 dK fJ gF gP n k ne:Nat} {gn dn:Bool} {og oe oe0 ow0:Option Nat} {es:List V} {L:List ar} {Q:aW→SS→Prop} (hx: (m.ah.map ar.v)[k]? =some x.v) (hn:m.ah.length=n) (hk:k<n) (hb:n< 1000) (hL:L.length≤k) (gC:og=none→L=[]) (h1: ¬x.id=a) (h2:x.id=b) (h3: ¬x.name=[])
  (hQ: ∀T' O' g',SS.Sub ⟨[(1,vi a),(2,vi b),(6,.ptr 112 g6 0 0),(9,.ptr 160 g9 0 0),(11,.ptr 192 dK 0 0),(12,.ptr 208 fJ 0 0),(15,.bool gn),(16,.bool true),(17,aF (k+1))],(112,⟨g6,4,false,false,some [aG.zero.v]⟩):: (160,⟨g9,5,false,false,some [f.v]⟩):: (192,⟨dK,4,false,false,some [.agg [lV 560 oe0 (m.an.map Edge.v).length,.sl 561 gF 0 (m.ah.map ar.v).length,lV 562 ow0 (m.ways.map Way.v).length,.sl 563 gP 0 (m.aw.map Place.v).length]]⟩):: (208,⟨fJ,4,false,false,some [.agg [lV 210 oe ne,.sl 211 g' 0 (L++[gR x f]).length,lV 562 ow0 (m.ways.map Way.v).length,.sl 563 gP 0 (m.aw.map Place.v).length]]⟩)::lR 560 4 oe0 (m.an.map Edge.v)++(561,⟨gF,5,true,false,some (m.ah.map ar.v)⟩):: (lR 562 8 ow0 (m.ways.map Way.v)++(563,⟨gP,7,true,false,some (m.aw.map Place.v)⟩):: ([(211,⟨g',5,true,false,some ((L++[gR x f]).map ar.v)⟩)]++lR 210 4 oe es))⟩ ⟨T',O'⟩→Q .normal ⟨T',O'⟩):
  gY E lL ⟨[(1,vi a),(2,vi b),(6,.ptr 112 g6 0 0),(9,.ptr 160 g9 0 0),(11,.ptr 192 dK 0 0),(12,.ptr 208 fJ 0 0),(15,.bool gn),(16,.bool false),(17,aF k)],(112,⟨g6,4,false,false,some [aG.zero.v]⟩):: (160,⟨g9,5,false,false,some [f.v]⟩):: (192,⟨dK,4,false,false,some [.agg [lV 560 oe0 (m.an.map Edge.v).length,.sl 561 gF 0 (m.ah.map ar.v).length,lV 562 ow0 (m.ways.map Way.v).length,.sl 563 gP 0 (m.aw.map Place.v).length]]⟩):: (208,⟨fJ,4,false,false,some [.agg [lV 210 oe ne,lV 211 og L.length,lV 562 ow0 (m.ways.map Way.v).length,.sl 563 gP 0 (m.aw.map Place.v).length]]⟩)::lR 560 4 oe0 (m.an.map Edge.v)++(561,⟨gF,5,true,false,some (m.ah.map ar.v)⟩):: (lR 562 8 ow0 (m.ways.map Way.v)++(563,⟨gP,7,true,false,some (m.aw.map Place.v)⟩):: (lR 211 5 og (L.map ar.v)++lR 210 4 oe es))⟩ Q:=by
 generalize hy:gR x f=y at*
 unfold gR EE Hv at hy
 first| rw[if_pos h3] at hy| rw[if_neg h3] at hy
 subst hy
 cases og<;>cases oe<;>cases oe0<;>cases ow0
 all_goals
  try (have:=gC rfl;subst this)
  (conv=>whnf);repeat' ((first| intro g| refine aH.mk _ (hx) ?_| refine st ?_| (first| refine b1 ?_ ?_| refine b2 ?_ ?_| refine Br.mk ?_ ?_) <;>intro hc| exact rfl) <;>conv=>whnf)
  exact hQ _ _ _ (by(refine⟨?_,?_⟩ <;>repeat' (first| exact True.intro| refine ai ?_| refine And.intro ?_ ?_)))
end Go.AM
