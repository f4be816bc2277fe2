/-
  Texts of the proof, joined by program: FuV, FlP. Own work.
-/
import Derived.Test.YtinmckmdbepjcaaGreatData
import Derived.Test.YtinmckmdbepjcaaGreatLa
set_option linter.unusedSimpArgs false
set_option linter.unusedVariables false
namespace Go.AM
abbrev lV (r:Nat) (og:Option Nat) (n:Nat):V:=match og with
 | none=> .nils
 | some g=> .sl r g 0 n
abbrev lR (r sz:Nat) (og:Option Nat) (l:List V):List (Nat×Obj):=match og with
 | none=> []
 | some g=> [(r,⟨g,sz,true,false,some l⟩)]
end Go.AM
set_option maxRecDepth 20000
namespace Go.AM
def aaR (es:List V):Prop:= ∀e ∈ es,∃a:Int,e= .tuple [vi a,.bool true]
theorem aak (x:Int): ∀ {es:List V},aaR es→ ∃o,cB (vi x) es=some o∧(o=none∨o=some (.bool true))
 | [],_=> ⟨none,rfl,.inl rfl⟩
 | e::es,h=>by
   obtain⟨a,rfl⟩:=h e (by simp)
   obtain⟨o,h1,h2⟩:=aak x (es:=es) (fun y hy=>h y (by simp[hy]))
   simp only[cB,vi,vT,if_true]
   cases hx: (x==a)
   · exact⟨o,h1,h2⟩
   · exact⟨_,rfl,.inr rfl⟩
theorem aaD (x:Int): ∀ {es:List V},aaR es→ ∃es',jD (vi x) (.bool true) es=some es'∧aaR es'
 | [],_=> ⟨[.tuple [vi x,.bool true]],rfl,fun e he=> ⟨x,by simpa using he⟩⟩
 | e::es,h=>by
   obtain⟨a,rfl⟩:=h e (by simp)
   obtain⟨es',h1,h2⟩:=aaD x (es:=es) (fun y hy=>h y (by simp[hy]))
   simp only[jD,vi,vT,if_true]
   cases hx: (x==a)
   · refine⟨.tuple [vi a,.bool true]::es',by simp only[vi] at h1;simp[h1,vi],fun e he=> ?_⟩
     rcases List.mem_cons.1 he with rfl| he
     · exact⟨a,rfl⟩
     · exact h2 e he
   · refine⟨.tuple [vi x,.bool true]::es,rfl,fun e he=> ?_⟩
     rcases List.mem_cons.1 he with rfl| he
     · exact⟨x,rfl⟩
     · exact h e (by simp[he])
theorem aaE {es:List V} (h:aaR es) (x:Int): ∃b:Bool,eE false (.bool false) es (vi x)= .done (.bool b):=by
 obtain⟨o,h1,rfl| rfl⟩:=aak x h
 · exact⟨false,by simp[eE,h1]⟩
 · exact⟨true,by simp[eE,h1]⟩
structure PtG where
 g2:Nat
 g4:Nat
 g5:Nat
 g6:Nat
abbrev Z0 (G:PtG) (d:Int) (x:List (Nat×V)):List (Nat×V):=(1,vi d):: (2,.ptr 48 G.g2 0 0):: (4,.ptr 80 G.g4 0 0):: (5,.ptr 96 G.g5 0 0):: (6,.mp 256 G.g6)::x
abbrev Z1 (G:PtG) (M:V) (ents:List V) (E' F W P:V) (x:List (Nat×Obj)):List (Nat×Obj):=
 (48,⟨G.g2,4,false,false,some [M]⟩):: (80,⟨G.g4,4,false,false,some [aG.zero.v]⟩):: (96,⟨G.g5,4,false,false,some [.agg [E',F,W,P]]⟩):: (256,⟨G.g6,0,false,false,some ents⟩)::x
set_option maxHeartbeats 4000000 in
theorem acE {M:V} {G:PtG} {d:Int} {n k:Nat} {og:Option Nat} {x:ar} {fs ents:List V} {L:List ar} {Q:aW→SS→Prop} (hx:fs[k]? =some x.v) (hn:fs.length=n) (hk:k<n) (hb:n< 1000) (hd: ¬x.bg=d)
  (hQ: ∀T' O',SS.Sub ⟨Z0 G d [(17,.lit 5 fs),(18,aF n),(19,aF (k+1))],Z1 G M ents .nils (lV 99 og L.length) .nils .nils (lR 99 5 og (L.map ar.v))⟩ ⟨T',O'⟩→Q .normal ⟨T',O'⟩):
  gY E Z7 ⟨Z0 G d [(17,.lit 5 fs),(18,aF n),(19,aF k)],Z1 G M ents .nils (lV 99 og L.length) .nils .nils (lR 99 5 og (L.map ar.v))⟩ Q:=by
 cases og
 all_goals
  (conv=>whnf);repeat' ((first| intro g| refine aH.mk _ (hx) ?_| refine st ?_| (first| refine b1 ?_ ?_| refine b2 ?_ ?_| refine Br.mk ?_ ?_) <;>intro hc| exact rfl) <;>conv=>whnf)
  exact hQ _ _ (by(refine⟨?_,?_⟩ <;>repeat' (first| exact True.intro| refine ai ?_| refine And.intro ?_ ?_)))
set_option maxHeartbeats 4000000 in
theorem acF {M:V} {G:PtG} {d:Int} {n k:Nat} {og:Option Nat} {x:ar} {fs ents Zp:List V} {L:List ar} {Q:aW→SS→Prop} (hx:fs[k]? =some x.v) (hn:fs.length=n) (hk:k<n) (hb:n< 1000) (hL:L.length≤k) (gC:og=none→L=[]) (hd:x.bg=d)
  (gZ:jD (vi x.id) (.bool true) ents=some Zp)
  (hQ: ∀T' O' g',SS.Sub ⟨Z0 G d [(17,.lit 5 fs),(18,aF n),(19,aF (k+1))],Z1 G M Zp .nils (.sl 99 g' 0 (L++[x]).length) .nils .nils [(99,⟨g',5,true,false,some ((L++[x]).map ar.v)⟩)]⟩ ⟨T',O'⟩→Q .normal ⟨T',O'⟩):
  gY E Z7 ⟨Z0 G d [(17,.lit 5 fs),(18,aF n),(19,aF k)],Z1 G M ents .nils (lV 99 og L.length) .nils .nils (lR 99 5 og (L.map ar.v))⟩ Q:=by
 cases og
 all_goals
  try (have:=gC rfl;subst this)
  (conv=>whnf);repeat' ((first| intro g| refine aH.mk _ (hx) ?_| refine aH.mk _ (gZ) ?_| refine st ?_| (first| refine b1 ?_ ?_| refine b2 ?_ ?_| refine Br.mk ?_ ?_) <;>intro hc| exact rfl) <;>conv=>whnf)
  exact hQ _ _ _ (by(refine⟨?_,?_⟩ <;>repeat' (first| exact True.intro| refine ai ?_| refine And.intro ?_ ?_)))
set_option maxHeartbeats 4000000 in
theorem acG {M:V} {G:PtG} {d:Int} {n k nf:Nat} {og of:Option Nat} {x:Edge} {xs ents fs:List V} {L:List Edge} {Q:aW→SS→Prop} (hx:xs[k]? =some x.v) (hn:xs.length=n) (hk:k<n) (hb:n< 1000)
  (h1:eE false (.bool false) ents (vi x.left)= .done (.bool false)) (h2:eE false (.bool false) ents (vi x.right)= .done (.bool false))
  (hQ: ∀T' O',SS.Sub ⟨Z0 G d [(38,.lit 4 xs),(39,aF n),(40,aF (k+1))],Z1 G M ents (lV 98 og L.length) (lV 99 of nf) .nils .nils (lR 98 4 og (L.map Edge.v)++lR 99 5 of fs)⟩ ⟨T',O'⟩→Q .normal ⟨T',O'⟩):
  gY E Z8 ⟨Z0 G d [(38,.lit 4 xs),(39,aF n),(40,aF k)],Z1 G M ents (lV 98 og L.length) (lV 99 of nf) .nils .nils (lR 98 4 og (L.map Edge.v)++lR 99 5 of fs)⟩ Q:=by
 cases og<;>cases of
 all_goals
  (conv=>whnf);repeat' ((first| intro g| refine aH.mk _ (hx) ?_| refine aH.mk _ (h1) ?_| refine aH.mk _ (h2) ?_| refine st ?_| (first| refine b1 ?_ ?_| refine b2 ?_ ?_| refine Br.mk ?_ ?_) <;>intro hc| exact rfl) <;>conv=>whnf)
  exact hQ _ _ (by(refine⟨?_,?_⟩ <;>repeat' (first| exact True.intro| refine ai ?_| refine And.intro ?_ ?_)))
set_option maxHeartbeats 4000000 in
theorem abF {M:V} {G:PtG} {d:Int} {n k nf:Nat} {og of:Option Nat} {x:Edge} {xs ents fs:List V} {L:List Edge} {b1 b2:Bool} {Q:aW→SS→Prop} (hx:xs[k]? =some x.v) (hn:xs.length=n) (hk:k<n) (hb:n< 1000) (hL:L.length≤k) (gC:og=none→L=[])
  (h1:eE false (.bool false) ents (vi x.left)= .done (.bool b1)) (h2:eE false (.bool false) ents (vi x.right)= .done (.bool b2)) (hbb:b1=true∨b1=false∧b2=true)
  (mG:Ev E 32 [iP x.line] ⟨.own 2 (x.line.map Pt.v),[]⟩)
  (hQ: ∀T' O' g',SS.Sub ⟨Z0 G d [(38,.lit 4 xs),(39,aF n),(40,aF (k+1))],Z1 G M ents (.sl 98 g' 0 (L++[x]).length) (lV 99 of nf) .nils .nils ([(98,⟨g',4,true,false,some ((L++[x]).map Edge.v)⟩)]++lR 99 5 of fs)⟩ ⟨T',O'⟩→Q .normal ⟨T',O'⟩):
  gY E Z8 ⟨Z0 G d [(38,.lit 4 xs),(39,aF n),(40,aF k)],Z1 G M ents (lV 98 og L.length) (lV 99 of nf) .nils .nils (lR 98 4 og (L.map Edge.v)++lR 99 5 of fs)⟩ Q:=by
 cases og<;>cases of<;>rcases hbb with rfl| ⟨rfl,rfl⟩
 all_goals
  try (have:=gC rfl;subst this)
  (conv=>whnf);repeat' ((first| intro g| refine aH.mk _ (hx) ?_| refine aH.mk _ (h1) ?_| refine aH.mk _ (h2) ?_| refine ag.mk _ (mG) ?_| refine st ?_| (first| refine b1 ?_ ?_| refine b2 ?_ ?_| refine Br.mk ?_ ?_) <;>intro hc| exact rfl) <;>conv=>whnf)
  exact hQ _ _ _ (by(refine⟨?_,?_⟩ <;>repeat' (first| exact True.intro| refine ai ?_| refine And.intro ?_ ?_)))
set_option maxHeartbeats 4000000 in
theorem acH {M:V} {G:PtG} {d:Int} {n k nf ne:Nat} {og oe of:Option Nat} {x:Way} {xs ents fs es:List V} {L:List Way} {Q:aW→SS→Prop} (hx:xs[k]? =some x.v) (hn:xs.length=n) (hk:k<n) (hb:n< 1000) (hd: ¬x.bg=d)
  (hQ: ∀T' O',SS.Sub ⟨Z0 G d [(66,.lit 8 xs),(67,aF n),(68,aF (k+1))],Z1 G M ents (lV 98 oe ne) (lV 99 of nf) (lV 100 og L.length) .nils (lR 100 8 og (L.map Way.v)++lR 98 4 oe es++lR 99 5 of fs)⟩ ⟨T',O'⟩→Q .normal ⟨T',O'⟩):
  gY E Z9 ⟨Z0 G d [(66,.lit 8 xs),(67,aF n),(68,aF k)],Z1 G M ents (lV 98 oe ne) (lV 99 of nf) (lV 100 og L.length) .nils (lR 100 8 og (L.map Way.v)++lR 98 4 oe es++lR 99 5 of fs)⟩ Q:=by
 cases og<;>cases oe<;>cases of
 all_goals
  (conv=>whnf);repeat' ((first| intro g| refine aH.mk _ (hx) ?_| refine st ?_| (first| refine b1 ?_ ?_| refine b2 ?_ ?_| refine Br.mk ?_ ?_) <;>intro hc| exact rfl) <;>conv=>whnf)
  exact hQ _ _ (by(refine⟨?_,?_⟩ <;>repeat' (first| exact True.intro| refine ai ?_| refine And.intro ?_ ?_)))
set_option maxHeartbeats 4000000 in
theorem acI {M:V} {G:PtG} {d:Int} {n k nf ne:Nat} {og oe of:Option Nat} {x:Way} {xs ents fs es:List V} {L:List Way} {Q:aW→SS→Prop} (hx:xs[k]? =some x.v) (hn:xs.length=n) (hk:k<n) (hb:n< 1000) (hL:L.length≤k) (gC:og=none→L=[]) (hd:x.bg=d)
  (mG:Ev E 32 [iP x.line] ⟨.own 2 (x.line.map Pt.v),[]⟩)
  (hQ: ∀T' O' g',SS.Sub ⟨Z0 G d [(66,.lit 8 xs),(67,aF n),(68,aF (k+1))],Z1 G M ents (lV 98 oe ne) (lV 99 of nf) (.sl 100 g' 0 (L++[x]).length) .nils ([(100,⟨g',8,true,false,some ((L++[x]).map Way.v)⟩)]++lR 98 4 oe es++lR 99 5 of fs)⟩ ⟨T',O'⟩→Q .normal ⟨T',O'⟩):
  gY E Z9 ⟨Z0 G d [(66,.lit 8 xs),(67,aF n),(68,aF k)],Z1 G M ents (lV 98 oe ne) (lV 99 of nf) (lV 100 og L.length) .nils (lR 100 8 og (L.map Way.v)++lR 98 4 oe es++lR 99 5 of fs)⟩ Q:=by
 cases og<;>cases oe<;>cases of
 all_goals
  try (have:=gC rfl;subst this)
  (conv=>whnf);repeat' ((first| intro g| refine aH.mk _ (hx) ?_| refine ag.mk _ (mG) ?_| refine st ?_| (first| refine b1 ?_ ?_| refine b2 ?_ ?_| refine Br.mk ?_ ?_) <;>intro hc| exact rfl) <;>conv=>whnf)
  exact hQ _ _ _ (by(refine⟨?_,?_⟩ <;>repeat' (first| exact True.intro| refine ai ?_| refine And.intro ?_ ?_)))
set_option maxHeartbeats 4000000 in
theorem acJ {M:V} {G:PtG} {d:Int} {n k nf ne nw:Nat} {og oe of ow:Option Nat} {x:Place} {xs ents fs es ws:List V} {L:List Place} {Q:aW→SS→Prop} (hx:xs[k]? =some x.v) (hn:xs.length=n) (hk:k<n) (hb:n< 1000) (hd: ¬x.bg=d)
  (hQ: ∀T' O',SS.Sub ⟨Z0 G d [(88,.lit 7 xs),(89,aF n),(90,aF (k+1))],Z1 G M ents (lV 98 oe ne) (lV 99 of nf) (lV 100 ow nw) (lV 101 og L.length) (lR 101 7 og (L.map Place.v)++lR 98 4 oe es++lR 99 5 of fs++lR 100 8 ow ws)⟩ ⟨T',O'⟩→Q .normal ⟨T',O'⟩):
  gY E aaa ⟨Z0 G d [(88,.lit 7 xs),(89,aF n),(90,aF k)],Z1 G M ents (lV 98 oe ne) (lV 99 of nf) (lV 100 ow nw) (lV 101 og L.length) (lR 101 7 og (L.map Place.v)++lR 98 4 oe es++lR 99 5 of fs++lR 100 8 ow ws)⟩ Q:=by
 cases og<;>cases oe<;>cases of<;>cases ow
 all_goals
  (conv=>whnf);repeat' ((first| intro g| refine aH.mk _ (hx) ?_| refine st ?_| (first| refine b1 ?_ ?_| refine b2 ?_ ?_| refine Br.mk ?_ ?_) <;>intro hc| exact rfl) <;>conv=>whnf)
  exact hQ _ _ (by(refine⟨?_,?_⟩ <;>repeat' (first| exact True.intro| refine ai ?_| refine And.intro ?_ ?_)))
set_option maxHeartbeats 4000000 in
theorem acK {M:V} {G:PtG} {d:Int} {n k nf ne nw:Nat} {og oe of ow:Option Nat} {x:Place} {xs ents fs es ws:List V} {L:List Place} {Q:aW→SS→Prop} (hx:xs[k]? =some x.v) (hn:xs.length=n) (hk:k<n) (hb:n< 1000) (hL:L.length≤k) (gC:og=none→L=[]) (hd:x.bg=d)
  (hQ: ∀T' O' g',SS.Sub ⟨Z0 G d [(88,.lit 7 xs),(89,aF n),(90,aF (k+1))],Z1 G M ents (lV 98 oe ne) (lV 99 of nf) (lV 100 ow nw) (.sl 101 g' 0 (L++[x]).length) ([(101,⟨g',7,true,false,some ((L++[x]).map Place.v)⟩)]++lR 98 4 oe es++lR 99 5 of fs++lR 100 8 ow ws)⟩ ⟨T',O'⟩→Q .normal ⟨T',O'⟩):
  gY E aaa ⟨Z0 G d [(88,.lit 7 xs),(89,aF n),(90,aF k)],Z1 G M ents (lV 98 oe ne) (lV 99 of nf) (lV 100 ow nw) (lV 101 og L.length) (lR 101 7 og (L.map Place.v)++lR 98 4 oe es++lR 99 5 of fs++lR 100 8 ow ws)⟩ Q:=by
 cases og<;>cases oe<;>cases of<;>cases ow
 all_goals
  try (have:=gC rfl;subst this)
  (conv=>whnf);repeat' ((first| intro g| refine aH.mk _ (hx) ?_| refine st ?_| (first| refine b1 ?_ ?_| refine b2 ?_ ?_| refine Br.mk ?_ ?_) <;>intro hc| exact rfl) <;>conv=>whnf)
  exact hQ _ _ _ (by(refine⟨?_,?_⟩ <;>repeat' (first| exact True.intro| refine ai ?_| refine And.intro ?_ ?_)))
end Go.AM
