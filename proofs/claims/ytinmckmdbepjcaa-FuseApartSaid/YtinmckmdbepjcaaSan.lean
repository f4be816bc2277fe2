/-
  Texts of the proof, joined by program: FuSan. Own work.
-/
import Derived.Test.YtinmckmdbepjcaaFns
import Derived.Test.YtinmckmdbepjcaaBase
import Derived.KernelRfl
set_option linter.unusedSimpArgs false
set_option linter.unusedVariables false
namespace Go.AM
def isTrue (r:Option fK):Bool:=match r with
 | some ⟨.bool true,[]⟩=>true
 | _=>false
theorem Bm {r:Option fK} (h:isTrue r=true):r=some ⟨.bool true,[]⟩:=by
 unfold isTrue at h
 split at h
 · rfl
 · simp at h
set_option maxRecDepth 100000 in
theorem QR:isTrue (call E 1000 483 [])=true:=by kernel_rfl
theorem Gr:Ev E 483 [] ⟨.bool true,[]⟩:=⟨1000,Bm QR⟩
end Go.AM
