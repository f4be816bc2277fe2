/-
  Texts of the proof, joined by program: PRefD. Own work.
-/
import Derived.Test.YtjmcpijpclfakaaJa
import Derived.Test.YtjmcpijpclfakaaJb
set_option linter.unusedSimpArgs false
set_option linter.unusedVariables false
set_option maxRecDepth 20000
namespace Go.AM
end Go.AM
