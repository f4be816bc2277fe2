/-
  Texts of the proof, joined by program: PCopy. Own work.
-/
import Derived.Test.YtjmcpijpclfakaaGreatA
set_option linter.unusedSimpArgs false
set_option linter.unusedVariables false
set_option maxRecDepth 20000
namespace Go.AM
mutual
def Ex.norm : Ex → Ex
  | .mk op var val nl l => .mk op var val true (Ex.norms l)
def Ex.norms : List Ex → List Ex
  | [] => []
  | e :: l => e.norm :: Ex.norms l
end
theorem Ex.norms_eq : ∀ l : List Ex, Ex.norms l = l.map Ex.norm
  | [] => by simp [Ex.norms]
  | e :: l => by simp [Ex.norms, Ex.norms_eq l]
def ownL : List V → V
  | [] => .nils
  | x :: xs => .own 7 (x :: xs)
def Ex.ov : Ex → V
  | .mk op var val nl l => .agg [vi op, vi var, vi val.t, vi val.n, .bool val.b, .str val.s, ownL (l.map Ex.v)]
theorem Ex.oform (x : Ex) : ∃ a b c d e f, (x.norm.ov = .agg [vi a, vi b, vi c, vi d, .bool e, .str f, .nils] ∧ x.norm.v = .agg [vi a, vi b, vi c, vi d, .bool e, .str f, .nils]) ∨
    ∃ ys : List Ex, ys ≠ [] ∧ x.norm.ov = .agg [vi a, vi b, vi c, vi d, .bool e, .str f, .own 7 (ys.map Ex.v)] ∧ x.norm.v = .agg [vi a, vi b, vi c, vi d, .bool e, .str f, .lit 7 (ys.map Ex.v)] := by
  obtain ⟨op, var, val, nl, l⟩ := x
  simp only [Ex.norm, Ex.norms_eq, Ex.v_eq, Ex.ov]
  refine ⟨op, var, val.t, val.n, val.b, val.s, ?_⟩
  cases l with
  | nil => exact .inl ⟨rfl, rfl⟩
  | cons y ys => exact .inr ⟨(y :: ys).map Ex.norm, by simp, rfl, rfl⟩
theorem rcopy_ev : ∀ (k : Nat) (e : Ex), e.size ≤ k → k < 1000000 → Ev E 334 [e.v] ⟨e.norm.ov, []⟩
  | 0, e, h, _ => by have := e.size_pos; omega
  | k + 1, .mk op var val nl l, h, hk => by
    have hsz : Ex.sizes l ≤ k := by simp only [Ex.size] at h; omega
    have ih : ∀ x ∈ l, Ev E 334 [x.v] ⟨x.norm.ov, []⟩ := fun x hx => rcopy_ev k x (Nat.le_trans (Ex.size_mem hx) hsz) (by omega)
    have hlen := Ex.length_le l
    rw [Ex.v_eq]
    simp only [Ex.norm, Ex.norms_eq, Ex.ov]
    refine Ev.of_s' E_334 (X_334 _) rfl ?_
    cases l with
    | nil =>
      cases nl <;> simp only [List.map_nil, lv, ownL, cond_true, cond_false, Ex.sizes]
      all_goals
        (conv => whnf); repeat' ((first | intro g | refine st ?_ | (first | refine b1 ?_ ?_ | refine b2 ?_ ?_ | refine Br.mk ?_ ?_) <;> intro hc | exact rfl) <;> conv => whnf)
        rename_i g32 g48
        refine LoopS.by (fun (i : Nat) => ⟨[(1, .ptr 32 g32 0 0), (2, .ptr 48 g48 0 0), (3, .ptr 64 g 0 0), (4, vnat 0)], [(32, ⟨g32, 7, false, false, some [_]⟩), (48, ⟨g48, 7, false, false, some [_]⟩), (64, ⟨g, 7, false, false, some [_]⟩)]⟩) (fun i => i = 0) (fun _ => 0) 0 (by (refine ⟨?_, ?_⟩ <;> repeat' (first | exact True.intro | refine ai ?_ | refine And.intro ?_ ?_))) rfl ?_
        rintro i rfl
        (conv => whnf); repeat' ((first | intro g | refine st ?_ | (first | refine b1 ?_ ?_ | refine b2 ?_ ?_ | refine Br.mk ?_ ?_) <;> intro hc | exact rfl) <;> conv => whnf)
    | cons y ys =>
      have e1 : lv nl ((y :: ys).map Ex.v) = .lit 7 ((y :: ys).map Ex.v) := rfl
      have e2 : ownL (((y :: ys).map Ex.norm).map Ex.v) = .own 7 (((y :: ys).map Ex.norm).map Ex.v) := rfl
      rw [e1, e2]
      have hne : 0 < (y :: ys).length := by simp
      generalize hl : y :: ys = l at *
      clear hl
      (conv => whnf); repeat' ((first | intro g | refine st ?_ | (first | refine b1 ?_ ?_ | refine b2 ?_ ?_ | refine Br.mk ?_ ?_) <;> intro hc | exact rfl) <;> conv => whnf)
      rename_i g32 g48
      obtain ⟨g64, hg64⟩ : ∃ x, x = g := ⟨_, rfl⟩
      rw [← hg64]; clear hg64
      refine LoopS.by (fun ((i, L, ce) : Nat × List Ex × Option Nat) => ⟨[(1, .ptr 32 g32 0 0), (2, .ptr 48 g48 0 0), (3, .ptr 64 g64 0 0), (4, vnat i)],
          match ce with
          | none => [(32, ⟨g32, 7, false, false, some [.agg [vi op, vi var, vi val.t, vi val.n, .bool val.b, .str val.s, .lit 7 (l.map Ex.v)]]⟩), (48, ⟨g48, 7, false, false, some [.agg [vi 0, vi 0, vi 0, vi 0, .bool false, .str [], .lit 7 []]]⟩), (64, ⟨g64, 7, false, false, some [.agg [vi op, vi var, vi val.t, vi val.n, .bool val.b, .str val.s, .nils]]⟩)]
          | some g69 => [(32, ⟨g32, 7, false, false, some [.agg [vi op, vi var, vi val.t, vi val.n, .bool val.b, .str val.s, .lit 7 (l.map Ex.v)]]⟩), (48, ⟨g48, 7, false, false, some [.agg [vi 0, vi 0, vi 0, vi 0, .bool false, .str [], .lit 7 []]]⟩), (64, ⟨g64, 7, false, false, some [.agg [vi op, vi var, vi val.t, vi val.n, .bool val.b, .str val.s, .sl 69 g69 0 L.length]]⟩), (69, ⟨g69, 7, true, false, some (L.map Ex.v)⟩)]⟩)
        (fun (i, L, ce) => i ≤ l.length ∧ L.length = i ∧ L = (l.take i).map Ex.norm ∧ (ce = none → L = []) ∧ (0 < i → ce ≠ none)) (fun (i, _) => l.length - i) (0, [], none) (by (refine ⟨?_, ?_⟩ <;> repeat' (first | exact True.intro | refine ai ?_ | refine And.intro ?_ ?_))) ⟨by simp, by simp, by simp, by simp, by simp⟩ ?_
      rintro ⟨i, L, ce⟩ ⟨hi, hL, hLt, hce, hcn⟩
      try dsimp only at hi hL hLt hce hcn
      by_cases hlt : i < l.length
      · obtain ⟨x, hx⟩ : ∃ x, l[i]? = some x := ⟨_, get_lt hlt⟩
        have hxe := ih x (List.mem_of_getElem? hx)
        have hLn : L ++ [x.norm] = (l.take (i + 1)).map Ex.norm := by rw [hLt, List.take_add_one, hx]; simp
        obtain ⟨a, b, c, d, e', f, M, hv, hM⟩ := x.form
        rw [hv] at hxe
        obtain ⟨a2, b2, c2, d2, e2', f2, ⟨ho, hn⟩ | ⟨zs, hz, ho, hn⟩⟩ := x.oform
        all_goals
          rw [ho] at hxe
          rcases hM with rfl | ⟨us, rfl⟩
          all_goals
            cases ce with
            | none =>
              obtain rfl := hce rfl
              (conv => whnf); repeat' ((first | intro g | refine Wit.mk _ (map_getE hx hv rfl) ?_ | refine CallS.mk _ (hxe) ?_ | refine st ?_ | (first | refine b1 ?_ ?_ | refine b2 ?_ ?_ | refine Br.mk ?_ ?_) <;> intro hc | exact rfl) <;> conv => whnf)
              exact NxtS.mk (i + 1, [x.norm], some g) (by first | omega | (dsimp only; omega)) ⟨(by first | omega | (dsimp only; omega)), by simp at hL ⊢; omega, hLn, by simp, by simp⟩ (by simp only [List.map_cons, List.map_nil, hn]; (refine ⟨?_, ?_⟩ <;> repeat' (first | exact True.intro | refine ai ?_ | refine And.intro ?_ ?_)))
            | some g69 =>
              (conv => whnf); repeat' ((first | intro g | refine Wit.mk _ (map_getE hx hv rfl) ?_ | refine CallS.mk _ (hxe) ?_ | refine st ?_ | (first | refine b1 ?_ ?_ | refine b2 ?_ ?_ | refine Br.mk ?_ ?_) <;> intro hc | exact rfl) <;> conv => whnf)
              exact NxtS.mk (i + 1, L ++ [x.norm], some g) (by first | omega | (dsimp only; omega)) ⟨(by first | omega | (dsimp only; omega)), by simp; omega, hLn, by simp, by simp⟩ (by simp only [List.map_append, List.map_cons, List.map_nil, hn]; (refine ⟨?_, ?_⟩ <;> repeat' (first | exact True.intro | refine ai ?_ | refine And.intro ?_ ?_)))
      · have hi' : i = l.length := by omega
        subst hi'
        rw [List.take_length] at hLt
        cases ce with
        | none => exact absurd rfl (hcn hne)
        | some g69 =>
          subst hLt
          (conv => whnf); repeat' ((first | intro g | refine Need.mk (⟨by simp, Ex.pures _⟩) ?_ | refine st ?_ | (first | refine b1 ?_ ?_ | refine b2 ?_ ?_ | refine Br.mk ?_ ?_) <;> intro hc | exact rfl) <;> conv => whnf)
end Go.AM
