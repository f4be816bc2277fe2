/-
  Texts of the proof, joined by program: PRefA, PRefB. Own work.
-/
import Derived.Test.YtjmcpijpclfakaaIa
set_option linter.unusedSimpArgs false
set_option linter.unusedVariables false
set_option maxRecDepth 20000
namespace Go.AM
def RW (ws : List Str) (so : Bool) (v : V) : Prop := v = .tuple [.own 1 (ws.map V.str), .bool so] ∨ v = .tuple [.lit 1 (ws.map V.str), .bool so]
theorem RW.imp {ws : List Str} {so : Bool} {v : V} (h : RW ws so v) (r : Nat) (k : V → Act2) : importRes2 false r [] v k = k (.tuple [.lit 1 (ws.map V.str), .bool so]) := by
  rcases h with rfl | rfl <;> rfl
theorem apure2 {v w : V} (h : V.isPure v = true) (k : V.isPure w = true) : V.arePure [v, w] = true := by simp only [V.arePure, h, k, Bool.and_self]
def Sv (sv : V) : Prop := sv = .nils ∨ ∃ ks, sv = .lit 4 ks
theorem IsS.sv {xs : List V} {sv : V} (h : IsS 4 xs sv) : Sv sv := by
  rcases h with rfl | ⟨_, rfl⟩
  · exact .inr ⟨_, rfl⟩
  · exact .inl rfl
end Go.AM
set_option maxRecDepth 20000
namespace Go.AM
end Go.AM
