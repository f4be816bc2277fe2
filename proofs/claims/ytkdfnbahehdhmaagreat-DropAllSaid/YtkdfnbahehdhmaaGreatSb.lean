/-
  Texts of the proof, joined by program: DrTc, DrTd. Own work.
-/
import Derived.Test.YtkdfnbahehdhmaaGreatData
import Derived.KernelRfl
set_option linter.unusedSimpArgs false
set_option linter.unusedVariables false
set_option maxRecDepth 100000
namespace Go.AM
theorem R6:Ev E 553 [.agg [vi 10,vi 12],.agg [vi 20,vi 14],.agg [vi 20,vi 40],.agg [vi 0,vi 0],.agg [vi 40,vi 0]] ⟨.bool false,[]⟩:=⟨1000,by kernel_rfl⟩
theorem R7:Ev E 553 [.agg [vi 10,vi 12],.agg [vi 20,vi 14],.agg [vi 20,vi 40],.agg [vi 40,vi 0],.agg [vi 40,vi 40]] ⟨.bool false,[]⟩:=⟨1000,by kernel_rfl⟩
theorem R8:Ev E 553 [.agg [vi 10,vi 12],.agg [vi 20,vi 14],.agg [vi 20,vi 40],.agg [vi 40,vi 40],.agg [vi 20,vi 40]] ⟨.bool false,[]⟩:=⟨1000,by kernel_rfl⟩
end Go.AM
set_option maxRecDepth 100000
namespace Go.AM
theorem R9:Ev E 553 [.agg [vi 10,vi 12],.agg [vi 20,vi 14],.agg [vi 20,vi 40],.agg [vi 20,vi 40],.agg [vi 0,vi 40]] ⟨.bool false,[]⟩:=⟨1000,by kernel_rfl⟩
theorem KU:Ev E 553 [.agg [vi 10,vi 12],.agg [vi 20,vi 14],.agg [vi 20,vi 40],.agg [vi 0,vi 40],.agg [vi 0,vi 0]] ⟨.bool false,[]⟩:=⟨1000,by kernel_rfl⟩
theorem KV:Ev E 553 [.agg [vi 10,vi 12],.agg [vi 20,vi 14],.agg [vi 20,vi 40],.agg [vi 0,vi 0],.agg [vi 10,vi 12]] ⟨.bool false,[]⟩:=⟨1000,by kernel_rfl⟩
end Go.AM
