/-
  Texts of the proof, joined by program: PTypF2. Own work.
-/
import Derived.Test.YtjmcpijpclfakaaD
set_option linter.unusedSimpArgs false
set_option linter.unusedVariables false
set_option maxRecDepth 20000
namespace Go.AM
end Go.AM
