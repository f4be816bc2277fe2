/- Texts of the proof. -/
import Derived.Test.YtgjbecccmiehkaaGreatGaa
import Derived.KernelRfl
set_option linter.unusedSimpArgs false
set_option linter.unusedVariables false
set_option maxRecDepth 100000
namespace Go.AM
theorem MT:Ev E 553 [.agg [vi 0,vi 0],.agg [vi 10,vi 12],.agg [vi 20,vi 14],.agg [vi 20,vi 40],.agg [vi 0,vi 40]] ⟨.bool false,[]⟩:=⟨1000,Zo⟩
theorem MU:Ev E 553 [.agg [vi 0,vi 0],.agg [vi 10,vi 12],.agg [vi 20,vi 14],.agg [vi 0,vi 40],.agg [vi 0,vi 0]] ⟨.bool false,[]⟩:=⟨1000,Zo⟩
theorem MV:Ev E 553 [.agg [vi 0,vi 0],.agg [vi 10,vi 12],.agg [vi 20,vi 14],.agg [vi 20,vi 14],.agg [vi 20,vi 40]] ⟨.bool false,[]⟩:=⟨1000,Zo⟩
end Go.AM
