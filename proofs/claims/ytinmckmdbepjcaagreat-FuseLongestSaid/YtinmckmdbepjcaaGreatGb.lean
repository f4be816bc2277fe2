/-
  Texts of the proof, joined by program: FuH, FuI. Own work.
-/
import Derived.Test.YtinmckmdbepjcaaGreatGa
set_option linter.unusedSimpArgs false
set_option linter.unusedVariables false
set_option maxRecDepth 20000
namespace Go.AM
theorem aG.ug (k:Bool) (m:aG): (m.kv k).aE=true:=by
 cases k<;>simp only[aG.kv,w8,V.aE,V.aq,Edge.cN,ar.cN,Way.cN,Place.cN,Bool.and_self]
set_option maxHeartbeats 4000000 in
theorem aah {m:aG} (hs:EP m) (a b:Int):Ev E 487 [m.v,vi a,vi b] ⟨vi (jX m a b),[]⟩:=by
 have h1:=yt false hs.2
 have h2:=ER false hs a b
 have GB:=tq false m.ah m.ah.length
 have EW:gv E 500=[]:=rfl
 have Pn:gv E 501=[]:=rfl
 have Au:V.aq [m.v]=true:=by
  have h0:V.aE m.v=true:=aG.ug false m
  simp only[V.aq,h0];rfl
 have Hx:V.aq [m.v,.mlit (b5 false m.ah m.ah.length),vi a,vi b]=true:=by
  have h0:V.aE m.v=true:=aG.ug false m
  simp only[V.aq,GB,h0];rfl
 refine Ev.bU adn (ado _) rfl ?_
 (conv=>whnf);repeat' ((first| refine tg EW Au h1 GB ?_| refine tg Pn Hx h2 rfl ?_| intro g| refine st ?_| (first| refine b1 ?_ ?_| refine b2 ?_ ?_| refine Br.mk ?_ ?_) <;>intro hc| exact rfl) <;>conv=>whnf)
end Go.AM
set_option maxRecDepth 20000
namespace Go.AM
structure rJ (m:aG):Prop where
 e:m.an.length< 1000
 f:m.ah.length< 1000
 w:m.ways.length< 1000
 p:m.aw.length< 1000
 el: ∀e ∈ m.an,e.line.length< 1000
 wl: ∀w ∈ m.ways,w.line.length< 1000
end Go.AM
