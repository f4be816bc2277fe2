/- Texts of the proof. -/
import Derived.Test.YtdifmldbllaeiaaGreatGal
import Derived.KernelRfl
set_option linter.unusedSimpArgs false
set_option linter.unusedVariables false
set_option maxRecDepth 100000
namespace Go.AM
theorem YI:Ev E 728 [] ⟨.bool true,[]⟩:=⟨3000,by kernel_rfl⟩
end Go.AM
