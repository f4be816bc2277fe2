/-
  Texts of the proof, joined by program: FuH. Own work.
-/
import Derived.Test.YtinmckmdbepjcaaGa
set_option linter.unusedSimpArgs false
set_option linter.unusedVariables false
set_option maxRecDepth 20000
namespace Go.AM
theorem aG.ug (k:Bool) (m:aG): (m.kv k).aE=true:=by
 cases k<;>simp only[aG.kv,w8,V.aE,V.aq,Edge.cN,ar.cN,Way.cN,Place.cN,Bool.and_self]
end Go.AM
