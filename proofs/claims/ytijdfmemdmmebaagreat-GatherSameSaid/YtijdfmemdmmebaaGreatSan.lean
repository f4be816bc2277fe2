/-
  Texts of the proof, joined by program: AmSan15. Own work.
-/
import Derived.Test.YtijdfmemdmmebaaGreatFns
import Derived.KernelRfl
set_option linter.unusedSimpArgs false
set_option linter.unusedVariables false
namespace Go.AM
def isTrue (r : Option Res) : Bool := match r with
  | some ⟨.bool true, []⟩ => true
  | _ => false
theorem isTrue_out {r : Option Res} (h : isTrue r = true) : r = some ⟨.bool true, []⟩ := by
  unfold isTrue at h
  split at h
  · rfl
  · simp at h
set_option maxRecDepth 100000 in
theorem san15 : isTrue (call E 1000 5 []) = true := by kernel_rfl
theorem sanity15 : Ev E 5 [] ⟨.bool true, []⟩ := ⟨1000, isTrue_out san15⟩
end Go.AM
