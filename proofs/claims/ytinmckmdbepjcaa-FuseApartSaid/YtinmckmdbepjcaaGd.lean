/-
  Texts of the proof, joined by program: FkI, FkJ, FkK. Own work.
-/
import Derived.Test.YtinmckmdbepjcaaGc
set_option linter.unusedSimpArgs false
set_option linter.unusedVariables false
set_option maxRecDepth 20000
namespace Go.AM
end Go.AM
set_option maxRecDepth 20000
namespace Go.AM
end Go.AM
set_option maxRecDepth 20000
namespace Go.AM
theorem aau {l:List Event} (hl:l.length< 1000000):Ev E 491 [.lit 5 (l.map Event.v),.lit 5 (l.map Event.v)] ⟨.bool true,[]⟩:=by
 refine Ev.bU abZ (ab0 _) rfl ?_
 (conv=>whnf);repeat' ((first| intro g| refine st ?_| (first| refine b1 ?_ ?_| refine b2 ?_ ?_| refine Br.mk ?_ ?_) <;>intro hc| exact rfl) <;>conv=>whnf)
 all_goals
  first
  | (simp at hc;done)
  | (refine ba.by (fun i:Nat=> ⟨[(0,.lit 5 (l.map Event.v)),(1,.lit 5 (l.map Event.v)),(5,aF i)],[]⟩) (fun i=>i≤l.length) (fun i=>l.length - i) 0 (by(refine⟨?_,?_⟩ <;>repeat' (first| exact True.intro| refine ai ?_| refine And.intro ?_ ?_))) (by simp) ?_
     intro i hi
     (conv=>whnf);repeat' ((first| intro g| refine st ?_| (first| refine b1 ?_ ?_| refine b2 ?_ ?_| refine Br.mk ?_ ?_) <;>intro hc| exact rfl) <;>conv=>whnf)
     all_goals first| exact bc.mk (i+1) (by first| omega| (dsimp only;omega)) (by omega) (by(refine⟨?_,?_⟩ <;>repeat' (first| exact True.intro| refine ai ?_| refine And.intro ?_ ?_))) | (simp at hc;done) | trace_state)
end Go.AM
