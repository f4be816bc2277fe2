/-
  Texts of the proof, joined by program: PCopy. Own work.
-/
import Derived.Test.YtjmcpijpclfakaaA
set_option linter.unusedSimpArgs false
set_option linter.unusedVariables false
set_option maxRecDepth 20000
namespace Go.AM
mutual
def Ex.norm : Ex → Ex
  | .mk op var val nl l => .mk op var val true (Ex.norms l)
def Ex.norms : List Ex → List Ex
  | [] => []
  | e :: l => e.norm :: Ex.norms l
end
theorem Ex.norms_eq : ∀ l : List Ex, Ex.norms l = l.map Ex.norm
  | [] => by simp [Ex.norms]
  | e :: l => by simp [Ex.norms, Ex.norms_eq l]
def ownL : List V → V
  | [] => .nils
  | x :: xs => .own 7 (x :: xs)
def Ex.ov : Ex → V
  | .mk op var val nl l => .agg [vi op, vi var, vi val.t, vi val.n, .bool val.b, .str val.s, ownL (l.map Ex.v)]
theorem Ex.oform (x : Ex) : ∃ a b c d e f, (x.norm.ov = .agg [vi a, vi b, vi c, vi d, .bool e, .str f, .nils] ∧ x.norm.v = .agg [vi a, vi b, vi c, vi d, .bool e, .str f, .nils]) ∨
    ∃ ys : List Ex, ys ≠ [] ∧ x.norm.ov = .agg [vi a, vi b, vi c, vi d, .bool e, .str f, .own 7 (ys.map Ex.v)] ∧ x.norm.v = .agg [vi a, vi b, vi c, vi d, .bool e, .str f, .lit 7 (ys.map Ex.v)] := by
  obtain ⟨op, var, val, nl, l⟩ := x
  simp only [Ex.norm, Ex.norms_eq, Ex.v_eq, Ex.ov]
  refine ⟨op, var, val.t, val.n, val.b, val.s, ?_⟩
  cases l with
  | nil => exact .inl ⟨rfl, rfl⟩
  | cons y ys => exact .inr ⟨(y :: ys).map Ex.norm, by simp, rfl, rfl⟩
end Go.AM
