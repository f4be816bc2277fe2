/-
  Texts of the proof, joined by program: PSanB. Own work.
-/
import Derived.Test.YtjmcpijpclfakaaData
set_option linter.unusedSimpArgs false
set_option linter.unusedVariables false
set_option maxRecDepth 20000
namespace Go.AM
set_option maxRecDepth 100000 in
theorem is0_k : isTrue (call E 1000 331 [.str [119, 101, 105, 103, 104, 116, 32, 43, 32, 51], .str [119, 101, 105, 103, 104, 116, 32, 43, 32, 51], vi (8), vi (12)]) = true := by kernel_rfl
theorem is0_ev : Ev E 331 [.str [119, 101, 105, 103, 104, 116, 32, 43, 32, 51], .str [119, 101, 105, 103, 104, 116, 32, 43, 32, 51], vi (8), vi (12)] ⟨.bool true, []⟩ := ⟨1000, isTrue_out is0_k⟩
set_option maxRecDepth 100000 in
theorem is1_k : isTrue (call E 1000 331 [.str [119, 101, 105, 103, 104, 116, 32, 60, 32, 49, 48], .str [116, 114, 117, 101], vi (1), vi (1)]) = true := by kernel_rfl
theorem is1_ev : Ev E 331 [.str [119, 101, 105, 103, 104, 116, 32, 60, 32, 49, 48], .str [116, 114, 117, 101], vi (1), vi (1)] ⟨.bool true, []⟩ := ⟨1000, isTrue_out is1_k⟩
set_option maxRecDepth 100000 in
theorem is2_k : isTrue (call E 1000 331 [.str [40, 99, 108, 97, 115, 115, 32, 61, 32, 34, 114, 111, 97, 100, 34, 41, 32, 111, 114, 32, 40, 115, 99, 97, 108, 101, 32, 60, 32, 57, 41], .str [115, 99, 97, 108, 101, 32, 60, 32, 57], vi (0), vi (1)]) = true := by kernel_rfl
theorem is2_ev : Ev E 331 [.str [40, 99, 108, 97, 115, 115, 32, 61, 32, 34, 114, 111, 97, 100, 34, 41, 32, 111, 114, 32, 40, 115, 99, 97, 108, 101, 32, 60, 32, 57, 41], .str [115, 99, 97, 108, 101, 32, 60, 32, 57], vi (0), vi (1)] ⟨.bool true, []⟩ := ⟨1000, isTrue_out is2_k⟩
set_option maxRecDepth 100000 in
theorem is3_k : isTrue (call E 1000 331 [.str [105, 102, 32, 115, 116, 97, 105, 114, 115, 32, 116, 104, 101, 110, 32, 49, 32, 101, 108, 115, 101, 32, 40, 119, 101, 105, 103, 104, 116, 32, 42, 32, 45, 50, 41], .str [119, 101, 105, 103, 104, 116, 32, 42, 32, 45, 50], vi (-18), vi (-10)]) = true := by kernel_rfl
theorem is3_ev : Ev E 331 [.str [105, 102, 32, 115, 116, 97, 105, 114, 115, 32, 116, 104, 101, 110, 32, 49, 32, 101, 108, 115, 101, 32, 40, 119, 101, 105, 103, 104, 116, 32, 42, 32, 45, 50, 41], .str [119, 101, 105, 103, 104, 116, 32, 42, 32, 45, 50], vi (-18), vi (-10)] ⟨.bool true, []⟩ := ⟨1000, isTrue_out is3_k⟩
set_option maxRecDepth 100000 in
theorem is4_k : isTrue (call E 1000 331 [.str [99, 108, 97, 115, 115, 32, 61, 32, 34, 116, 114, 101, 101, 34], .str [99, 108, 97, 115, 115, 32, 61, 32, 34, 116, 114, 101, 101, 34], vi (0), vi (1)]) = true := by kernel_rfl
theorem is4_ev : Ev E 331 [.str [99, 108, 97, 115, 115, 32, 61, 32, 34, 116, 114, 101, 101, 34], .str [99, 108, 97, 115, 115, 32, 61, 32, 34, 116, 114, 101, 101, 34], vi (0), vi (1)] ⟨.bool true, []⟩ := ⟨1000, isTrue_out is4_k⟩
set_option maxRecDepth 100000 in
theorem is5_k : isTrue (call E 1000 331 [.str [110, 97, 109, 101], .str [110, 97, 109, 101], vi (0), vi (-1)]) = true := by kernel_rfl
theorem is5_ev : Ev E 331 [.str [110, 97, 109, 101], .str [110, 97, 109, 101], vi (0), vi (-1)] ⟨.bool true, []⟩ := ⟨1000, isTrue_out is5_k⟩
def isR0 (r : Option Res) : Bool := match r with
  | some ⟨.bool true, []⟩ => true
  | _ => false
theorem isR0_out {r : Option Res} (h : isR0 r = true) : r = some ⟨.bool true, []⟩ := by
  unfold isR0 at h
  split at h
  · rfl
  · simp at h
set_option maxRecDepth 100000 in
theorem fi0_k : isR0 (call E 1000 322 [.agg [vi 0, .str [], .str [], vi 9, vi 0, .bool false, vi 0, vi 0, vi 0], .lit 4 [.agg [vi 4, vi 5, vi 9, .lit 1 []]]]) = true := by kernel_rfl
theorem fi0_ev : Ev E 322 [.agg [vi 0, .str [], .str [], vi 9, vi 0, .bool false, vi 0, vi 0, vi 0], .lit 4 [.agg [vi 4, vi 5, vi 9, .lit 1 []]]] ⟨.bool true, []⟩ := ⟨1000, isR0_out fi0_k⟩
def isR1 (r : Option Res) : Bool := match r with
  | some ⟨.bool false, []⟩ => true
  | _ => false
theorem isR1_out {r : Option Res} (h : isR1 r = true) : r = some ⟨.bool false, []⟩ := by
  unfold isR1 at h
  split at h
  · rfl
  · simp at h
set_option maxRecDepth 100000 in
theorem fi1_k : isR1 (call E 1000 322 [.agg [vi 0, .str [], .str [], vi 10, vi 0, .bool false, vi 0, vi 0, vi 0], .lit 4 [.agg [vi 4, vi 5, vi 9, .lit 1 []]]]) = true := by kernel_rfl
theorem fi1_ev : Ev E 322 [.agg [vi 0, .str [], .str [], vi 10, vi 0, .bool false, vi 0, vi 0, vi 0], .lit 4 [.agg [vi 4, vi 5, vi 9, .lit 1 []]]] ⟨.bool false, []⟩ := ⟨1000, isR1_out fi1_k⟩
theorem sanity_ev : Ev E 311 [] ⟨.bool true, []⟩ := by
  refine Ev.of_s' E_311 (X_311 _) rfl ?_
  (conv => whnf); repeat' ((first | intro g | refine CallS.mk _ (is0_ev) ?_ | refine CallS.mk _ (is1_ev) ?_ | refine CallS.mk _ (is2_ev) ?_ | refine CallS.mk _ (is3_ev) ?_ | refine CallS.mk _ (is4_ev) ?_ | refine CallS.mk _ (is5_ev) ?_ | refine CallS.mk _ (fi0_ev) ?_ | refine CallS.mk _ (fi1_ev) ?_ | refine st ?_ | (first | refine b1 ?_ ?_ | refine b2 ?_ ?_ | refine Br.mk ?_ ?_) <;> intro hc | exact rfl) <;> conv => whnf)
end Go.AM
