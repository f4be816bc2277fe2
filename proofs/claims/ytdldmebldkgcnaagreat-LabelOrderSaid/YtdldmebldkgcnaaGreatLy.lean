/- Texts of the proof. -/
import Derived.Test.YtdldmebldkgcnaaGreatFns
import Derived.KernelRfl
set_option linter.unusedSimpArgs false
set_option linter.unusedVariables false
set_option maxRecDepth 100000
namespace Go.AM
theorem r4:Ev E 591 [] ⟨.bool true,[]⟩:=⟨1000,aiQ⟩
end Go.AM
